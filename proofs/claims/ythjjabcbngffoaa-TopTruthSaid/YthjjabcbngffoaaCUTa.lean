/- Part 1 of the proof of TopTruth: what it alone needs. -/
import Derived.Test.YthjjabcbngffoaaCUd
set_option linter.unusedVariables false
set_option linter.unusedSimpArgs false
section
namespace Go.Proofs.Ythjjabcbngffoaa.P
open Go.RowKit Go.Proofs.YthjjabcbngffoaaW.PrintWords Go.Proofs.YthjjabcbngffoaaW.PrintLast Go.Proofs.YthjjabcbngffoaaW.PrintMore
attribute [local go_sem] max2_int min2_int max_two min_two max_three min_three max_four min_four
set_option linter.unusedVariables false
set_option linter.unusedSimpArgs false
set_option maxHeartbeats 8000000
set_option maxRecDepth 100000
section
mutual
def cohousingtop_TopTruth.j0 : Nat → Int → List (S63) → List (S38) → List Int → List Int → Bool → Bool → Option (Bool)
 | 0, _, _, _, _, _, _, _ => none
 | k + 1, x0, x1, x2, x3, x4, x11, x47 => if x47 = true then (some x11) else ((charges_Network.f x0 x1 x2 x3).bind fun bt609 => ((flow_Consistent.f x1 x2 x4).bind fun bt614 => (if bt609.2.2 = 0 then (if bt614.2 = 0 then (cohousingtop_TopTruth.j1 k x0 x1 x3 x4 x11 bt609.1 bt609.2.1 (!bt614.1)) else (cohousingtop_TopTruth.j1 k x0 x1 x3 x4 x11 bt609.1 bt609.2.1 true)) else (cohousingtop_TopTruth.j1 k x0 x1 x3 x4 x11 bt609.1 bt609.2.1 true))))
def cohousingtop_TopTruth.j1 : Nat → Int → List (S63) → List Int → List Int → Bool → List (S40) → Int → Bool → Option (Bool)
 | 0, _, _, _, _, _, _, _, _ => none
 | k + 1, x0, x1, x3, x4, x11, x12, x13, x74 => if x74 = true then (some x11) else (cohousingtop_TopTruth.l0 k x0 x1 x3 x4 x11 x12 x13 ([] : List (S38)) x4 (x4.length : Int) 0)
def cohousingtop_TopTruth.l0 : Nat → Int → List (S63) → List Int → List Int → Bool → List (S40) → Int → List (S38) → List Int → Int → Int → Option (Bool)
 | 0, _, _, _, _, _, _, _, _, _, _, _ => none
 | k + 1, x0, x1, x3, x4, x11, x12, x13, x17, x76, x77, x78 => if x78 < x77 then (if 0 ≤ x78 then (if x78 < (x76.length : Int) then (if x17.length < 8796093022208 then (cohousingtop_TopTruth.l0 k x0 x1 x3 x4 x11 x12 x13 (x17 ++ [(⟨rd x76 x78, rd x76 x78⟩ : S38)]) x76 x77 (wrap64 (x78 + 1))) else (none)) else (none)) else (none)) else ((charges_Network.f x0 x1 x17 x3).bind fun bt620 => ((cohousingref29_Leaves.f k x1).bind fun t625 => ((cohousingref29_Root.f k x1).bind fun t628 => (if bt620.2.2 = 0 then (if (bt620.1.length : Int) = (t625.length : Int) then (if (x12.length : Int) = (t625.length : Int) then (if t628 < 0 then (cohousingtop_TopTruth.j3 k x0 x4 x11 x12 bt620.1 bt620.2.1 t625 t628 true) else ((cohousingtop_w17Settled.f k x12 bt620.1 x13 bt620.2.1).bind fun t629 => (cohousingtop_TopTruth.j3 k x0 x4 x11 x12 bt620.1 bt620.2.1 t625 t628 (!t629)))) else (cohousingtop_TopTruth.j3 k x0 x4 x11 x12 bt620.1 bt620.2.1 t625 t628 true)) else (cohousingtop_TopTruth.j3 k x0 x4 x11 x12 bt620.1 bt620.2.1 t625 t628 true)) else (cohousingtop_TopTruth.j3 k x0 x4 x11 x12 bt620.1 bt620.2.1 t625 t628 true)))))
def cohousingtop_TopTruth.j3 : Nat → Int → List Int → Bool → List (S40) → List (S40) → Int → List Int → Int → Bool → Option (Bool)
 | 0, _, _, _, _, _, _, _, _, _ => none
 | k + 1, x0, x4, x11, x12, x20, x21, x23, x24, x129 => if x129 = true then (some false) else (cohousingtop_TopTruth.l1 k x0 x4 x11 x12 x20 x24 x21 x23 (x23.length : Int) 0)
def cohousingtop_TopTruth.l1 : Nat → Int → List Int → Bool → List (S40) → List (S40) → Int → Int → List Int → Int → Int → Option (Bool)
 | 0, _, _, _, _, _, _, _, _, _, _ => none
 | k + 1, x0, x4, x11, x12, x20, x24, x25, x131, x132, x133 => if x133 < x132 then (if 0 ≤ x133 then (if x133 < (x131.length : Int) then (if 0 ≤ x24 then (if x24 < (x4.length : Int) then (if 0 ≤ (rd x131 x133) then (if (rd x131 x133) < (x4.length : Int) then ((cohousingref29_Right.f k x0 (rd x4 x24) (rd x4 (rd x131 x133))).bind fun t633 => (if x11 = true then (if x133 < (x20.length : Int) then (if (rd_T40 x20 x133).f3 = true then (if ((rd_T40 x20 x133).f1) = t633 then (if x133 < (x12.length : Int) then (if ((rd_T40 x12 x133).f2.f0) ≤ t633 then (if t633 ≤ ((rd_T40 x12 x133).f2.f1) then (if ((rd_T40 x12 x133).f3 = true) then (cohousingtop_TopTruth.l1 k x0 x4 (((rd_T40 x12 x133).f1) == t633) x12 x20 x24 (wrap64 (x25 + t633)) x131 x132 (wrap64 (x133 + 1))) else (cohousingtop_TopTruth.l1 k x0 x4 true x12 x20 x24 (wrap64 (x25 + t633)) x131 x132 (wrap64 (x133 + 1)))) else (cohousingtop_TopTruth.l1 k x0 x4 false x12 x20 x24 (wrap64 (x25 + t633)) x131 x132 (wrap64 (x133 + 1)))) else (cohousingtop_TopTruth.l1 k x0 x4 false x12 x20 x24 (wrap64 (x25 + t633)) x131 x132 (wrap64 (x133 + 1)))) else (none)) else (cohousingtop_TopTruth.l1 k x0 x4 false x12 x20 x24 (wrap64 (x25 + t633)) x131 x132 (wrap64 (x133 + 1)))) else (cohousingtop_TopTruth.l1 k x0 x4 false x12 x20 x24 (wrap64 (x25 + t633)) x131 x132 (wrap64 (x133 + 1)))) else (none)) else (cohousingtop_TopTruth.l1 k x0 x4 false x12 x20 x24 (wrap64 (x25 + t633)) x131 x132 (wrap64 (x133 + 1))))) else (none)) else (none)) else (none)) else (none)) else (none)) else (none)) else (if x11 = true then (some (x25 == x0)) else (some false))
end
def cohousingtop_TopTruth.f (k : Nat) (a0 : Int) (l1 : List (S63)) (l2 : List (S38)) (l3 : List Int) (l4 : List Int) : Option (Bool) := (cohousingtop_w17Pipes.f).bind fun t608 => (if (l1.length : Int) > 20 then (cohousingtop_TopTruth.j0 k a0 l1 l2 l3 l4 t608 true) else (if (l2.length : Int) > 20 then (cohousingtop_TopTruth.j0 k a0 l1 l2 l3 l4 t608 true) else (if (l3.length : Int) > 20 then (cohousingtop_TopTruth.j0 k a0 l1 l2 l3 l4 t608 true) else (cohousingtop_TopTruth.j0 k a0 l1 l2 l3 l4 t608 (decide ((l4.length : Int) > 20))))))
def cohousingtop_TopTruth.T22 : Bool × List (List Nat × List Nat) := (true, [([], []), ([], []), ([], []), ([1, 2], [1, 2]), ([3], [3]), ([], []), ([], []), ([5, 6], [5, 6]), ([7], [7]), ([0, 4, 8], [0, 4, 8]), ([9, 9, 0, 1, 2, 3, 4, 5, 6, 7, 8, 9], [9])])
def cohousingtop_TopTruth.B22 : List Nat := [0, 0, 0, 6, 14, 0, 0, 96, 224, 511, 1023]
theorem cohousingtop_TopTruth.tab22 : rtab .any (opsOf Try.f10 22) = cohousingtop_TopTruth.T22 := by kernel_rfl
theorem cohousingtop_TopTruth.bits22 : waitsOk cohousingtop_TopTruth.T22.2 cohousingtop_TopTruth.B22 = true := by kernel_rfl
theorem cohousingtop_TopTruth.calls (k : Nat) (a0 : Int) (A1 : Option Addr) (c1 : Nat) (l1 : List (S63)) (A2 : Option Addr) (c2 : Nat) (l2 : List (S38)) (A3 : Option Addr) (c3 : Nat) (l3 : List Int) (A4 : Option Addr) (c4 : Nat) (l4 : List Int) (r : Bool) (w : World) (hr1 : Kd.C k63 w A1 l1.length l1) (hc1 : l1.length ≤ c1) (hr2 : Kd.C k38 w A2 l2.length l2) (hc2 : l2.length ≤ c2) (hr3 : Kd.C (Kd.int .i64) w A3 l3.length l3) (hc3 : l3.length ≤ c3) (hr4 : Kd.C (Kd.int .i64) w A4 l4.length l4) (hc4 : l4.length ≤ c4) (h : cohousingtop_TopTruth.f k a0 l1 l2 l3 l4 = some r) (hr_ : r = true := by rfl) :
  Calls Try.prog 10 #[.int .i64 a0, .slice A1 l1.length c1, .slice A2 l2.length c2, .slice A3 l3.length c3, .slice A4 l4.length c4] w fun e w' => e = .returned (.bool r) ∧ Below w.heap.size w w' := by
 subst hr_
 have hu38 := Try.underlying38
 have HR1 := Aside0.mk hr1
 have HC1 := Aside0.mk hc1
 clear hr1 hc1
 have HR2 := Aside0.mk hr2
 have HC2 := Aside0.mk hc2
 clear hr2 hc2
 have HR3 := Aside0.mk hr3
 have HC3 := Aside0.mk hc3
 clear hr3 hc3
 have HR4 := Aside0.mk hr4
 have HC4 := Aside0.mk hc4
 clear hr4 hc4
 have HB := Aside0.mk (Below.refl w.heap.size w)
 have H : ((cohousingtop_w17Pipes.f).bind fun t608 => (if (l1.length : Int) > 20 then (cohousingtop_TopTruth.j0 k a0 l1 l2 l3 l4 t608 true) else (if (l2.length : Int) > 20 then (cohousingtop_TopTruth.j0 k a0 l1 l2 l3 l4 t608 true) else (if (l3.length : Int) > 20 then (cohousingtop_TopTruth.j0 k a0 l1 l2 l3 l4 t608 true) else (cohousingtop_TopTruth.j0 k a0 l1 l2 l3 l4 t608 (decide ((l4.length : Int) > 20))))))) = some true := h
 clear h
 replace H := Option.bind_eq_some_iff.mp H
 obtain ⟨t608, A60, H⟩ := H
 replace H : (if (l1.length : Int) > 20 then (cohousingtop_TopTruth.j0 k a0 l1 l2 l3 l4 t608 true) else (if (l2.length : Int) > 20 then (cohousingtop_TopTruth.j0 k a0 l1 l2 l3 l4 t608 true) else (if (l3.length : Int) > 20 then (cohousingtop_TopTruth.j0 k a0 l1 l2 l3 l4 t608 true) else (cohousingtop_TopTruth.j0 k a0 l1 l2 l3 l4 t608 (decide ((l4.length : Int) > 20)))))) = some true := H
 have A6 := Aside0.mk A60
 clear A60
 have HC7 := Aside0.mk H
 clear H
 go_enter Try.func10, Try.ntmps10
 go_upto_region 2 with (first | ((with_reducible refine gate_callee (f := 27) rfl ?_); refine gl_ (some 29) Try.func27 #[] ?_; (with_reducible refine (cohousingtop_w17Pipes.calls  t608 _ A6.out).mono ?_); rintro e w8 ⟨rfl, hb⟩; refine ⟨_, rfl, ?_⟩; have n0_ := Aside0.mk (below_step (bb_ HB) hb); clear HB; have HB := n0_; clear n0_; (try clear hb); (try clear hb2); (try clear hk); (try clear hi)))
 (try simp only [Act.put, sI_, s0_, sS_])
 go_cut [47] (fun v47 wc => ∃ (kq : Nat) (x47_6 : Bool), v47 = .bool x47_6 ∧ Aside0 (cohousingtop_TopTruth.j0 kq a0 l1 l2 l3 l4 t608 x47_6 = some true) ∧ Aside0 (kq ≤ k) ∧ Aside0 (Below w.heap.size w wc))
 case first => as_aux_lemma =>
  have H := HC7.out
  clear HC7
  by_cases c9 : (l1.length : Int) > 20
  ·rw [if_pos c9] at H
   have c9b0 : decide (20 < (l1.length : Int)) = true := decide_eq_true c9
   have c9b1 : decide (20 < l1.length) = true := decide_eq_true (by omega)
   clear c9
   (first | rw [c9b0] | (simp only [i64_w, i32_w]; rw [c9b0]) | skip)
   have H' := Aside0.mk H
   clear H
   go_wp2
   go_meet
   case rel => exact ⟨_, (true), sd_, H', ⟨by first | omega | exact Nat.le_refl _⟩, ⟨by repeat (first | (with_reducible first | exact HB.out | apply below_alloc | apply pw_below_drewN | apply below_drew1) | exact HB.out)⟩⟩
  ·rw [if_neg c9] at H
   have c9b0 : decide (20 < (l1.length : Int)) = false := decide_eq_false c9
   have c9b1 : decide (20 < l1.length) = false := decide_eq_false (by omega)
   clear c9
   (first | rw [c9b0] | (simp only [i64_w, i32_w]; rw [c9b0]) | skip)
   by_cases c10 : (l2.length : Int) > 20
   ·rw [if_pos c10] at H
    have c10b0 : decide (20 < (l2.length : Int)) = true := decide_eq_true c10
    have c10b1 : decide (20 < l2.length) = true := decide_eq_true (by omega)
    clear c10
    have H' := Aside0.mk H
    clear H
    go_wp2
    go_meet
    case rel => exact ⟨_, (true), sd_, H', ⟨by first | omega | exact Nat.le_refl _⟩, ⟨by repeat (first | (with_reducible first | exact HB.out | apply below_alloc | apply pw_below_drewN | apply below_drew1) | exact HB.out)⟩⟩
   ·rw [if_neg c10] at H
    have c10b0 : decide (20 < (l2.length : Int)) = false := decide_eq_false c10
    have c10b1 : decide (20 < l2.length) = false := decide_eq_false (by omega)
    clear c10
    by_cases c11 : (l3.length : Int) > 20
    ·rw [if_pos c11] at H
     have c11b0 : decide (20 < (l3.length : Int)) = true := decide_eq_true c11
     have c11b1 : decide (20 < l3.length) = true := decide_eq_true (by omega)
     clear c11
     have H' := Aside0.mk H
     clear H
     go_wp2
     go_meet
     case rel => exact ⟨_, (true), sd_, H', ⟨by first | omega | exact Nat.le_refl _⟩, ⟨by repeat (first | (with_reducible first | exact HB.out | apply below_alloc | apply pw_below_drewN | apply below_drew1) | exact HB.out)⟩⟩
    ·rw [if_neg c11] at H
     have c11b0 : decide (20 < (l3.length : Int)) = false := decide_eq_false c11
     have c11b1 : decide (20 < l3.length) = false := decide_eq_false (by omega)
     clear c11
     have H' := Aside0.mk H
     clear H
     go_wp2
     go_meet
     case rel => exact ⟨_, (decide ((l4.length : Int) > 20)), sd_, H', ⟨by first | omega | exact Nat.le_refl _⟩, ⟨by repeat (first | (with_reducible first | exact HB.out | apply below_alloc | apply pw_below_drewN | apply below_drew1) | exact HB.out)⟩⟩
 case rest => as_aux_lemma =>
  clear HC7
  try clear c1
  try clear c2
  try clear p2
  try clear c3
  try clear c4
  try clear c9
  try clear c9b0
  try clear c9b1
  try clear c10
  try clear c10b0
  try clear c10b1
  try clear c11
  try clear c11b0
  try clear c11b1
  obtain ⟨kq, x47_6, rfl, HA, HJ6, HB⟩ := hcut
  cases kq with
  | zero => exact absurd HA.out (by simp [cohousingtop_TopTruth.j0])
  | succ kj6 =>
   have H := HA.out
   clear HA
   simp only [cohousingtop_TopTruth.j0] at H
   by_cases c12 : x47_6 = true
   ·subst c12
    have H1 : (some t608) = some true := by rw [if_pos rfl] at H; exact H
    clear H
    have H := H1
    clear H1
    have hfin_ := Option.some.inj H
    go_wp2
    go_ret
    exact ⟨ew_, by repeat (first | (with_reducible first | exact HB.out | apply below_alloc | apply pw_below_drewN | apply below_drew1) | exact HB.out)⟩
   ·replace c12 := Bool.eq_false_iff.mpr c12
    subst c12
    have H1 : ((charges_Network.f a0 l1 l2 l3).bind fun bt609 => ((flow_Consistent.f l1 l2 l4).bind fun bt614 => (if bt609.2.2 = 0 then (if bt614.2 = 0 then (cohousingtop_TopTruth.j1 kj6 a0 l1 l3 l4 t608 bt609.1 bt609.2.1 (!bt614.1)) else (cohousingtop_TopTruth.j1 kj6 a0 l1 l3 l4 t608 bt609.1 bt609.2.1 true)) else (cohousingtop_TopTruth.j1 kj6 a0 l1 l3 l4 t608 bt609.1 bt609.2.1 true)))) = some true := by rw [if_neg (show ¬ (false = true) by decide)] at H; exact H
    clear H
    have H := H1
    clear H1
    replace H := Option.bind_eq_some_iff.mp H
    obtain ⟨⟨t609, t610, t611⟩, A130, H⟩ := H
    replace H : ((flow_Consistent.f l1 l2 l4).bind fun bt614 => (if t611 = 0 then (if bt614.2 = 0 then (cohousingtop_TopTruth.j1 kj6 a0 l1 l3 l4 t608 t609 t610 (!bt614.1)) else (cohousingtop_TopTruth.j1 kj6 a0 l1 l3 l4 t608 t609 t610 true)) else (cohousingtop_TopTruth.j1 kj6 a0 l1 l3 l4 t608 t609 t610 true))) = some true := H
    have A13 := Aside0.mk A130
    clear A130
    replace H := Option.bind_eq_some_iff.mp H
    obtain ⟨⟨t614, t615⟩, A140, H⟩ := H
    replace H : (if t611 = 0 then (if t615 = 0 then (cohousingtop_TopTruth.j1 kj6 a0 l1 l3 l4 t608 t609 t610 (!t614)) else (cohousingtop_TopTruth.j1 kj6 a0 l1 l3 l4 t608 t609 t610 true)) else (cohousingtop_TopTruth.j1 kj6 a0 l1 l3 l4 t608 t609 t610 true)) = some true := H
    have A14 := Aside0.mk A140
    clear A140
    have HC15 := Aside0.mk H
    clear H
    go_upto_region 6 with (first | ((with_reducible refine gate_callee (f := 19) rfl ?_); refine gl_ (some 54) Try.func19 #[.int .i64 a0, .slice A1 l1.length c1, .slice A2 l2.length c2, .slice A3 l3.length c3] ?_; (with_reducible refine (charges_Network.calls a0 _ _ l1 _ _ l2 _ _ l3 t609 t610 t611 _ ?side1 ?side2 ?side3 ?side4 ?side5 ?side6 A13.out).mono ?_); (case side1 => exact cc_ ((Kd.C_below HR1.out HB.out))); (case side2 => exact HC1.out); (case side3 => exact cc_ ((Kd.C_below HR2.out HB.out))); (case side4 => exact HC2.out); (case side5 => exact cc_ ((Kd.C_below HR3.out HB.out))); (case side6 => exact HC3.out); rintro e w16 ⟨v612, rfl, ho0, hb⟩; refine ⟨_, rfl, ?_⟩; have n0_ := Aside0.mk (Kd.R_lower ho0 (below_size (bb_ HB))); have n1_ := Aside0.mk (below_step (bb_ HB) hb); clear HB; have HO613 := n0_; have HB := n1_; clear n0_ n1_; (try clear hb); (try clear hb2); (try clear hk); (try clear hi); (try clear ho0)) | ((with_reducible refine gate_callee (f := 21) rfl ?_); refine gl_ (some 62) Try.func21 #[.slice A1 l1.length c1, .slice A2 l2.length c2, .slice A4 l4.length c4] ?_; (with_reducible refine (flow_Consistent.calls _ _ l1 _ _ l2 _ _ l4 t614 t615 _ ?side1 ?side2 ?side3 ?side4 ?side5 ?side6 A14.out).mono ?_); (case side1 => exact cc_ ((Kd.C_below HR1.out HB.out))); (case side2 => exact HC1.out); (case side3 => exact cc_ ((Kd.C_below HR2.out HB.out))); (case side4 => exact HC2.out); (case side5 => exact cc_ ((Kd.C_below HR4.out HB.out))); (case side6 => exact HC4.out); rintro e w17 ⟨rfl, hb⟩; refine ⟨_, rfl, ?_⟩; have n0_ := Aside0.mk (Kd.R_below (rr_ HO613) hb); have n1_ := Aside0.mk (below_step (bb_ HB) hb); clear HO613; clear HB; have HO613 := n0_; have HB := n1_; clear n0_ n1_; (try clear hb); (try clear hb2); (try clear hk); (try clear hi)))
    (try simp only [Act.put, sI_, s0_, sS_])
    go_cut [74] (fun v74 wc => ∃ (kq : Nat) (x74_14 : Bool), v74 = .bool x74_14 ∧ Aside0 (cohousingtop_TopTruth.j1 kq a0 l1 l3 l4 t608 t609 t610 x74_14 = some true) ∧ Aside0 (kq ≤ kj6) ∧ Aside0 (Kd.R k40 40 wc w.heap.size (fun _ => True) v612 t609) ∧ Aside0 (Below w.heap.size w wc))
    case first => as_aux_lemma =>
     have H := HC15.out
     clear HC15
     by_cases c18 : t611 = 0
     ·rw [if_pos c18] at H
      have c18b0 : (t611 == 0) = true := beq_iff_eq.mpr c18
      have c18b1 : (t611 != 0) = false := bne_eq_false_iff_eq.mpr c18
      clear c18
      (first | rw [c18b0] | (simp only [i64_w, i32_w]; rw [c18b0]) | skip)
      by_cases c19 : t615 = 0
      ·rw [if_pos c19] at H
       have c19b0 : (t615 == 0) = true := beq_iff_eq.mpr c19
       have c19b1 : (t615 != 0) = false := bne_eq_false_iff_eq.mpr c19
       clear c19
       have H' := Aside0.mk H
       clear H
       go_wp2
       go_meet
       case rel => exact ⟨_, (!t614), sd_, H', ⟨by have := HJ6.out; first | omega | exact Nat.le_refl _⟩, ⟨by (with_reducible repeat (first | apply Kd.R_alloc | apply Kd.R_drewN | apply Kd.R_drew)); exact HO613.out⟩, ⟨by repeat (first | (with_reducible first | exact HB.out | apply below_alloc | apply pw_below_drewN | apply below_drew1) | exact HB.out)⟩⟩
      ·rw [if_neg c19] at H
       have c19b0 : (t615 == 0) = false := beq_eq_false_iff_ne.mpr c19
       have c19b1 : (t615 != 0) = true := bne_iff_ne.mpr c19
       have H' := Aside0.mk H
       clear H
       go_wp2
       go_meet
       case rel => exact ⟨_, (true), sd_, H', ⟨by have := HJ6.out; first | omega | exact Nat.le_refl _⟩, ⟨by (with_reducible repeat (first | apply Kd.R_alloc | apply Kd.R_drewN | apply Kd.R_drew)); exact HO613.out⟩, ⟨by repeat (first | (with_reducible first | exact HB.out | apply below_alloc | apply pw_below_drewN | apply below_drew1) | exact HB.out)⟩⟩
     ·rw [if_neg c18] at H
      have c18b0 : (t611 == 0) = false := beq_eq_false_iff_ne.mpr c18
      have c18b1 : (t611 != 0) = true := bne_iff_ne.mpr c18
      (first | rw [c18b0] | (simp only [i64_w, i32_w]; rw [c18b0]) | skip)
      have H' := Aside0.mk H
      clear H
      go_wp2
      go_meet
      case rel => exact ⟨_, (true), sd_, H', ⟨by have := HJ6.out; first | omega | exact Nat.le_refl _⟩, ⟨by (with_reducible repeat (first | apply Kd.R_alloc | apply Kd.R_drewN | apply Kd.R_drew)); exact HO613.out⟩, ⟨by repeat (first | (with_reducible first | exact HB.out | apply below_alloc | apply pw_below_drewN | apply below_drew1) | exact HB.out)⟩⟩
    case rest => as_aux_lemma =>
     clear HC15
     try clear c1
     try clear c2
     try clear p2
     try clear c3
     try clear c4
     try clear c9
     try clear c9b0
     try clear c9b1
     try clear c10
     try clear c10b0
     try clear c10b1
     try clear c11
     try clear c11b0
     try clear c11b1
     try clear c12
     try clear c18
     try clear c18b0
     try clear c18b1
     try clear c19
     try clear c19b0
     try clear c19b1
     try clear p2
     obtain ⟨kq, x74_14, rfl, HA, HJ14, HO_12, HB⟩ := hcut
     cases kq with
     | zero => exact absurd HA.out (by simp [cohousingtop_TopTruth.j1])
     | succ kj14 =>
      have H := HA.out
      clear HA
      simp only [cohousingtop_TopTruth.j1] at H
      by_cases c20 : x74_14 = true
      ·subst c20
       have H1 : (some t608) = some true := by rw [if_pos rfl] at H; exact H
       clear H
       have H := H1
       clear H1
       have hfin_ := Option.some.inj H
       go_wp2
       go_ret
       exact ⟨ew_, by repeat (first | (with_reducible first | exact HB.out | apply below_alloc | apply pw_below_drewN | apply below_drew1) | exact HB.out)⟩
      ·replace c20 := Bool.eq_false_iff.mpr c20
       subst c20
       have H1 : (cohousingtop_TopTruth.l0 kj14 a0 l1 l3 l4 t608 t609 t610 ([] : List (S38)) l4 (l4.length : Int) 0) = some true := by rw [if_neg (show ¬ (false = true) by decide)] at H; exact H
       clear H
       have H := H1
       clear H1
       have H' := Aside0.mk H
       clear H
       go_wp2
       go_loopg [17, 78] kj14 (fun kq v17 v78 w' => ∃ (x17_3 : List (S38)) (x78_3 : Int), v78 = .int .i64 x78_3 ∧ Aside0 (cohousingtop_TopTruth.l0 kq a0 l1 l3 l4 t608 t609 t610 x17_3 l4 (l4.length : Int) x78_3 = some true) ∧ Aside0 (kq ≤ kj14) ∧ Aside0 (Kd.R k40 40 w' w.heap.size (fun _ => True) v612 t609) ∧ Aside0 (Kd.R k38 38 w' w.heap.size (fun _ => True) v17 x17_3) ∧ Aside0 (Below w.heap.size w w'))
       case atStart => exact ⟨(([] : List (S38))), (0), sd_, H', ⟨Nat.le_refl _⟩, ⟨by (with_reducible repeat (first | apply Kd.R_alloc | apply Kd.R_drewN | apply Kd.R_drew)); exact HO_12.out⟩, ⟨by first | exact Kd.R_nil _ _ _ _ _ | exact Kd.N_nil _ _ _ _ _ | exact Kd.V_nil _ _ _ _ _ | exact Kd.Q_nil _ _ _ _ _ | exact Kd.S_nil _ _ _ _ _⟩, ⟨by repeat (first | (with_reducible first | exact HB.out | apply below_alloc | apply pw_below_drewN | apply below_drew1) | exact HB.out)⟩⟩
       case round => as_aux_lemma =>
        clear H'
        try clear c1
        try clear c2
        try clear p2
        try clear c3
        try clear c4
        try clear c9
        try clear c9b0
        try clear c9b1
        try clear c10
        try clear c10b0
        try clear c10b1
        try clear c11
        try clear c11b0
        try clear c11b1
        try clear c12
        try clear c18
        try clear c18b0
        try clear c18b1
        try clear c19
        try clear c19b0
        try clear c19b1
        try clear c20
        try clear p2
        obtain ⟨x17_3, x78_3, rfl, HA, HK3, HO_12, HO_17, HB⟩ := hrel
        cases gk with
        | zero => exact absurd HA.out (by simp [cohousingtop_TopTruth.l0])
        | succ k3 =>
         have H := HA.out
         clear HA
         simp only [cohousingtop_TopTruth.l0] at H
         by_cases c21 : x78_3 < (l4.length : Int)
         ·rw [if_pos c21] at H
          have c21b0 : decide (x78_3 < (l4.length : Int)) = true := decide_eq_true c21
          clear c21
          by_cases c22 : 0 ≤ x78_3
          ·rw [if_pos c22] at H
           have c22b0 : decide (0 ≤ x78_3) = true := decide_eq_true c22
           clear c22
           by_cases c23 : x78_3 < (l4.length : Int)
           ·rw [if_pos c23] at H
            have c23b0 : decide (x78_3 < (l4.length : Int)) = true := decide_eq_true c23
            clear c23
            by_cases c24 : x17_3.length < 8796093022208
            ·rw [if_pos c24] at H
             have LMc24 := Aside0.mk c24
             clear c24
             obtain ⟨y617, hy617⟩ : ∃ y_ : List (S38), y_ = (x17_3 ++ [(⟨rd l4 x78_3, rd l4 x78_3⟩ : S38)]) := ⟨_, rfl⟩
             replace H : (cohousingtop_TopTruth.l0 k3 a0 l1 l3 l4 t608 t609 t610 y617 l4 (l4.length : Int) (wrap64 (x78_3 + 1))) = some true := by first | (rw [hy617]; with_reducible exact H) | (have H2_ := (Option.bind_some _ _).symm.trans H; rw [hy617]; with_reducible exact H2_) | (have H2_ := (Option.bind_some _ _).symm.trans H; with_reducible exact H2_) | with_reducible exact H | (rw [hy617]; exact H) | exact H
             have Ny617 := Aside0.mk hy617
             clear hy617
             have H' := Aside0.mk H
             clear H
             have p616 : 0 ≤ (x78_3 : Int) := od_
             have q616 : x78_3 < (l4.length : Int) := od_
             obtain ⟨ad616, e616, hx616_0⟩ := Kd.at_int HR4.out x78_3 p616 q616
             cases e616
             replace hx616_0 := (HB.out.cell (World.block_lt_of_cell? w _ hx616_0)).trans hx616_0
             replace p616 := eq_true p616
             replace q616 := eq_true q616
             go_wp2_with (first | ((with_reducible refine gate_builtin (b := .append) (xs := #[.tmp 82, .tmp 86]) rfl ?_); (try (refine gate_guard (by rfl) ?_; dsimp only)); at_builtin; refine Kd.R_append k38 (w0 := w) w.heap.size rfl (.tmp 82) (.tmp 86) 23 38 (.agg #[(.int .i64 0), (.int .i64 0)]) 16 rfl Try.underlying23 info38 rfl (by decide) (by omega) u17 x17_3 (⟨rd l4 x78_3, rd l4 x78_3⟩ : S38) [.int .i64 (rd l4 x78_3), .int .i64 (rd l4 x78_3)] (fun _ => True) (fun _ => False) rfl rfl ?aP (fun _ hk => hk.elim) ?aF ?aO ?aB ?aS ?aL ?_; (case aP => exact k38_mkM _ _ _ (⟨rd l4 x78_3, rd l4 x78_3⟩ : S38)); (case aB => exact (bb_ HB)); (case aF => exact (fun _ _ => trivial)); (case aO => exact (rr_ HO_17)); (case aS => exact (below_size (bb_ HB))); (case aL => have := LMc24.out; omega); intro v618 w25 ho hb hg hat; rw [← Ny617.out] at ho; have n0_ := Aside0.mk (Kd.R_over' (rr_ HO_12) (Kd.R_typed (rr_ HO_17)) (by decide) hg); have n1_ := Aside0.mk (hb); have n2_ := Aside0.mk (ho); clear HO_12; clear HB; clear HO_17; have HO_12 := n0_; have HB := n1_; have HO619 := n2_; clear n0_ n1_ n2_; clear ho hb hg hat))
             go_roundg k3
             case measure => have := HJ6.out; have := HJ14.out; have := HK3.out; omega
             case rel => exact ⟨(y617), (wrap64 (x78_3 + 1)), sd_, H', ⟨by have := HJ6.out; have := HJ14.out; have := HK3.out; omega⟩, ⟨by (with_reducible repeat (first | apply Kd.R_alloc | apply Kd.R_drewN | apply Kd.R_drew)); exact HO_12.out⟩, ⟨by (with_reducible repeat (first | apply Kd.R_alloc | apply Kd.R_drewN | apply Kd.R_drew)); exact HO619.out⟩, ⟨by repeat (first | (with_reducible first | exact HB.out | apply below_alloc | apply pw_below_drewN | apply below_drew1) | exact HB.out)⟩⟩
            ·rw [if_neg c24] at H
             exact absurd H (by simp)
           ·rw [if_neg c23] at H
            exact absurd H (by simp)
          ·rw [if_neg c22] at H
           exact absurd H (by simp)
         ·rw [if_neg c21] at H
          have c21b0 : decide (x78_3 < (l4.length : Int)) = false := decide_eq_false c21
          clear c21
          replace H := Option.bind_eq_some_iff.mp H
          obtain ⟨⟨t620, t621, t622⟩, A260, H⟩ := H
          replace H : ((cohousingref29_Leaves.f k3 l1).bind fun t625 => ((cohousingref29_Root.f k3 l1).bind fun t628 => (if t622 = 0 then (if (t620.length : Int) = (t625.length : Int) then (if (t609.length : Int) = (t625.length : Int) then (if t628 < 0 then (cohousingtop_TopTruth.j3 k3 a0 l4 t608 t609 t620 t621 t625 t628 true) else ((cohousingtop_w17Settled.f k3 t609 t620 t610 t621).bind fun t629 => (cohousingtop_TopTruth.j3 k3 a0 l4 t608 t609 t620 t621 t625 t628 (!t629)))) else (cohousingtop_TopTruth.j3 k3 a0 l4 t608 t609 t620 t621 t625 t628 true)) else (cohousingtop_TopTruth.j3 k3 a0 l4 t608 t609 t620 t621 t625 t628 true)) else (cohousingtop_TopTruth.j3 k3 a0 l4 t608 t609 t620 t621 t625 t628 true)))) = some true := H
          have A26 := Aside0.mk A260
          clear A260
          replace H := Option.bind_eq_some_iff.mp H
          obtain ⟨t625, A270, H⟩ := H
          replace H : ((cohousingref29_Root.f k3 l1).bind fun t628 => (if t622 = 0 then (if (t620.length : Int) = (t625.length : Int) then (if (t609.length : Int) = (t625.length : Int) then (if t628 < 0 then (cohousingtop_TopTruth.j3 k3 a0 l4 t608 t609 t620 t621 t625 t628 true) else ((cohousingtop_w17Settled.f k3 t609 t620 t610 t621).bind fun t629 => (cohousingtop_TopTruth.j3 k3 a0 l4 t608 t609 t620 t621 t625 t628 (!t629)))) else (cohousingtop_TopTruth.j3 k3 a0 l4 t608 t609 t620 t621 t625 t628 true)) else (cohousingtop_TopTruth.j3 k3 a0 l4 t608 t609 t620 t621 t625 t628 true)) else (cohousingtop_TopTruth.j3 k3 a0 l4 t608 t609 t620 t621 t625 t628 true))) = some true := H
          have A27 := Aside0.mk A270
          clear A270
          replace H := Option.bind_eq_some_iff.mp H
          obtain ⟨t628, A280, H⟩ := H
          replace H : (if t622 = 0 then (if (t620.length : Int) = (t625.length : Int) then (if (t609.length : Int) = (t625.length : Int) then (if t628 < 0 then (cohousingtop_TopTruth.j3 k3 a0 l4 t608 t609 t620 t621 t625 t628 true) else ((cohousingtop_w17Settled.f k3 t609 t620 t610 t621).bind fun t629 => (cohousingtop_TopTruth.j3 k3 a0 l4 t608 t609 t620 t621 t625 t628 (!t629)))) else (cohousingtop_TopTruth.j3 k3 a0 l4 t608 t609 t620 t621 t625 t628 true)) else (cohousingtop_TopTruth.j3 k3 a0 l4 t608 t609 t620 t621 t625 t628 true)) else (cohousingtop_TopTruth.j3 k3 a0 l4 t608 t609 t620 t621 t625 t628 true)) = some true := H
          have A28 := Aside0.mk A280
          clear A280
          have HC29 := Aside0.mk H
          clear H
          obtain ⟨Ao30, co30, eo30⟩ := Kd.R_slice HO_17.out
          subst eo30
          go_upto_region 16 with (first | ((with_reducible refine gate_callee (f := 19) rfl ?_); refine gl_ (some 94) Try.func19 #[.int .i64 a0, .slice A1 l1.length c1, .slice Ao30 x17_3.length co30, .slice A3 l3.length c3] ?_; (with_reducible refine (charges_Network.calls a0 _ _ l1 _ _ x17_3 _ _ l3 t620 t621 t622 _ ?side1 ?side2 ?side3 ?side4 ?side5 ?side6 A26.out).mono ?_); (case side1 => exact cc_ ((Kd.C_below HR1.out HB.out))); (case side2 => exact HC1.out); (case side3 => exact cc_ ((Kd.R_reads' HO_17.out).2.2)); (case side4 => exact (Kd.R_reads' HO_17.out).2.1); (case side5 => exact cc_ ((Kd.C_below HR3.out HB.out))); (case side6 => exact HC3.out); rintro e w31 ⟨v623, rfl, ho0, hb⟩; refine ⟨_, rfl, ?_⟩; have n0_ := Aside0.mk (Kd.R_elder' (rr_ HO_12) (Kd.R_base ho0) hb); have n1_ := Aside0.mk (Kd.R_below (rr_ HO_17) hb); have n2_ := Aside0.mk (Kd.R_lower (Kd.R_new' ho0 (Kd.R_lt (rr_ HO_12))) (below_size (bb_ HB))); have n3_ := Aside0.mk (below_step (bb_ HB) hb); clear HO_12; clear HO_17; clear HB; have HO_12 := n0_; have HO_17 := n1_; have HO624 := n2_; have HB := n3_; clear n0_ n1_ n2_ n3_; (try clear hb); (try clear hb2); (try clear hk); (try clear hi); (try clear ho0)) | ((with_reducible refine gate_callee (f := 23) rfl ?_); refine gl_ (some 99) Try.func23 #[.slice A1 l1.length c1] ?_; (with_reducible refine (cohousingref29_Leaves.calls k3 _ _ l1 t625 _ ?side1 ?side2 A27.out).mono ?_); (case side1 => exact cc_ ((Kd.C_below HR1.out HB.out))); (case side2 => exact HC1.out); rintro e w32 ⟨v626, rfl, ho0, hb⟩; refine ⟨_, rfl, ?_⟩; have n0_ := Aside0.mk (Kd.R_below (rr_ HO_12) hb); have n1_ := Aside0.mk (Kd.R_below (rr_ HO_17) hb); have n2_ := Aside0.mk (Kd.R_below (rr_ HO624) hb); have n3_ := Aside0.mk (Kd.R_lower ho0 (below_size (bb_ HB))); have n4_ := Aside0.mk (below_step (bb_ HB) hb); clear HO_12; clear HO_17; clear HO624; clear HB; have HO_12 := n0_; have HO_17 := n1_; have HO624 := n2_; have HO627 := n3_; have HB := n4_; clear n0_ n1_ n2_ n3_ n4_; (try clear hb); (try clear hb2); (try clear hk); (try clear hi); (try clear ho0)) | ((with_reducible refine gate_callee (f := 22) rfl ?_); refine gl_ (some 101) Try.func22 #[.slice A1 l1.length c1] ?_; (with_reducible refine (cohousingref29_Root.calls k3 _ _ l1 t628 _ ?side1 ?side2 A28.out).mono ?_); (case side1 => exact cc_ ((Kd.C_below HR1.out HB.out))); (case side2 => exact HC1.out); rintro e w' ⟨rfl, ⟨nd, rfl⟩⟩; refine ⟨_, rfl, ?_⟩))
          (try simp only [Act.put, sI_, s0_, sS_])
          go_cut [129] (fun v129 wc => ∃ (kq : Nat) (x129_28 : Bool), v129 = .bool x129_28 ∧ Aside0 (cohousingtop_TopTruth.j3 kq a0 l4 t608 t609 t620 t621 t625 t628 x129_28 = some true) ∧ Aside0 (kq ≤ k3) ∧ Aside0 (Kd.R k40 40 wc w.heap.size (fun k_ => some k_ ≠ (v623 : Value).ownBlock) v612 t609) ∧ Aside0 (Kd.R k40 40 wc w.heap.size (fun k_ => some k_ ≠ (v612 : Value).ownBlock) v623 t620) ∧ Aside0 (Kd.R (Kd.int .i64) 3 wc w.heap.size (fun _ => True) v626 t625) ∧ Aside0 (Below w.heap.size w wc))
          case first => as_aux_lemma =>
           have H := HC29.out
           clear HC29
           by_cases c33 : t622 = 0
           ·rw [if_pos c33] at H
            have c33b0 : (t622 == 0) = true := beq_iff_eq.mpr c33
            have c33b1 : (t622 != 0) = false := bne_eq_false_iff_eq.mpr c33
            clear c33
            (first | rw [c33b0] | (simp only [i64_w, i32_w]; rw [c33b0]) | skip)
            by_cases c34 : (t620.length : Int) = (t625.length : Int)
            ·rw [if_pos c34] at H
             have c34b0 : ((t620.length : Int) == (t625.length : Int)) = true := beq_iff_eq.mpr c34
             have c34b1 : ((t620.length : Int) != (t625.length : Int)) = false := bne_eq_false_iff_eq.mpr c34
             have c34b2 : (t620.length == t625.length) = true := by first | simpa using c34 | (simp at c34 ⊢; omega)
             clear c34
             by_cases c35 : (t609.length : Int) = (t625.length : Int)
             ·rw [if_pos c35] at H
              have c35b0 : ((t609.length : Int) == (t625.length : Int)) = true := beq_iff_eq.mpr c35
              have c35b1 : ((t609.length : Int) != (t625.length : Int)) = false := bne_eq_false_iff_eq.mpr c35
              have c35b2 : (t609.length == t625.length) = true := by first | simpa using c35 | (simp at c35 ⊢; omega)
              clear c35
              by_cases c36 : t628 < 0
              ·rw [if_pos c36] at H
               have c36b0 : decide (t628 < 0) = true := decide_eq_true c36
               clear c36
               have H' := Aside0.mk H
               clear H
               obtain ⟨Ao37, co37, eo37⟩ := Kd.R_slice HO624.out
               subst eo37
               obtain ⟨Ao38, co38, eo38⟩ := Kd.R_slice HO627.out
               subst eo38
               obtain ⟨Ao39, co39, eo39⟩ := Kd.R_slice HO_12.out
               subst eo39
               go_wp2
               go_meet
               case rel => exact ⟨_, (true), sd_, H', ⟨by have := HJ6.out; have := HJ14.out; have := HK3.out; first | omega | exact Nat.le_refl _⟩, ⟨by (with_reducible repeat (first | apply Kd.R_alloc | apply Kd.R_drewN | apply Kd.R_drew)); exact Kd.R_mono HO_12.out (fun _ hk => hk.2)⟩, ⟨by (with_reducible repeat (first | apply Kd.R_alloc | apply Kd.R_drewN | apply Kd.R_drew)); exact Kd.R_mono HO624.out (fun _ hk => hk.2)⟩, ⟨by (with_reducible repeat (first | apply Kd.R_alloc | apply Kd.R_drewN | apply Kd.R_drew)); exact HO627.out⟩, ⟨by repeat (first | (with_reducible first | exact HB.out | apply below_alloc | apply pw_below_drewN | apply below_drew1) | exact HB.out)⟩⟩
              ·rw [if_neg c36] at H
               have c36b0 : decide (t628 < 0) = false := decide_eq_false c36
               clear c36
               replace H := Option.bind_eq_some_iff.mp H
               obtain ⟨t629, A400, H⟩ := H
               replace H : (cohousingtop_TopTruth.j3 k3 a0 l4 t608 t609 t620 t621 t625 t628 (!t629)) = some true := H
               have A40 := Aside0.mk A400
               clear A400
               have H' := Aside0.mk H
               clear H
               obtain ⟨Ao41, co41, eo41⟩ := Kd.R_slice HO624.out
               subst eo41
               obtain ⟨Ao42, co42, eo42⟩ := Kd.R_slice HO627.out
               subst eo42
               obtain ⟨Ao43, co43, eo43⟩ := Kd.R_slice HO_12.out
               subst eo43
               go_wp2_with (first | (go_at_call 29; (with_reducible refine (cohousingtop_w17Settled.calls k3 _ _ t609 _ _ t620 t610 t621 t629 _ ?side1 ?side2 ?side3 ?side4 A40.out).mono ?_); (case side1 => exact cc_ ((Kd.R_reads' HO_12.out).2.2)); (case side2 => exact (Kd.R_reads' HO_12.out).2.1); (case side3 => exact cc_ ((Kd.R_reads' HO624.out).2.2)); (case side4 => exact (Kd.R_reads' HO624.out).2.1); rintro e w44 ⟨rfl, hb⟩; have n0_ := Aside0.mk (Kd.R_below (rr_ HO_12) hb); have n1_ := Aside0.mk (Kd.R_below (rr_ HO_17) hb); have n2_ := Aside0.mk (Kd.R_below (rr_ HO624) hb); have n3_ := Aside0.mk (Kd.R_below (rr_ HO627) hb); have n4_ := Aside0.mk (below_step (bb_ HB) hb); clear HO_12; clear HO_17; clear HO624; clear HO627; clear HB; have HO_12 := n0_; have HO_17 := n1_; have HO624 := n2_; have HO627 := n3_; have HB := n4_; clear n0_ n1_ n2_ n3_ n4_; (try clear hb); (try clear hb2); (try clear hk); (try clear hi)))
               go_meet
               case rel => exact ⟨_, (!t629), sd_, H', ⟨by have := HJ6.out; have := HJ14.out; have := HK3.out; first | omega | exact Nat.le_refl _⟩, ⟨by (with_reducible repeat (first | apply Kd.R_alloc | apply Kd.R_drewN | apply Kd.R_drew)); exact Kd.R_mono HO_12.out (fun _ hk => hk.2)⟩, ⟨by (with_reducible repeat (first | apply Kd.R_alloc | apply Kd.R_drewN | apply Kd.R_drew)); exact Kd.R_mono HO624.out (fun _ hk => hk.2)⟩, ⟨by (with_reducible repeat (first | apply Kd.R_alloc | apply Kd.R_drewN | apply Kd.R_drew)); exact HO627.out⟩, ⟨by repeat (first | (with_reducible first | exact HB.out | apply below_alloc | apply pw_below_drewN | apply below_drew1) | exact HB.out)⟩⟩
             ·rw [if_neg c35] at H
              have c35b0 : ((t609.length : Int) == (t625.length : Int)) = false := beq_eq_false_iff_ne.mpr c35
              have c35b1 : ((t609.length : Int) != (t625.length : Int)) = true := bne_iff_ne.mpr c35
              have c35b2 : (t609.length == t625.length) = false := by first | simpa using c35 | (simp at c35 ⊢; omega)
              have H' := Aside0.mk H
              clear H
              obtain ⟨Ao45, co45, eo45⟩ := Kd.R_slice HO624.out
              subst eo45
              obtain ⟨Ao46, co46, eo46⟩ := Kd.R_slice HO627.out
              subst eo46
              obtain ⟨Ao47, co47, eo47⟩ := Kd.R_slice HO_12.out
              subst eo47
              go_wp2
              go_meet
              case rel => exact ⟨_, (true), sd_, H', ⟨by have := HJ6.out; have := HJ14.out; have := HK3.out; first | omega | exact Nat.le_refl _⟩, ⟨by (with_reducible repeat (first | apply Kd.R_alloc | apply Kd.R_drewN | apply Kd.R_drew)); exact Kd.R_mono HO_12.out (fun _ hk => hk.2)⟩, ⟨by (with_reducible repeat (first | apply Kd.R_alloc | apply Kd.R_drewN | apply Kd.R_drew)); exact Kd.R_mono HO624.out (fun _ hk => hk.2)⟩, ⟨by (with_reducible repeat (first | apply Kd.R_alloc | apply Kd.R_drewN | apply Kd.R_drew)); exact HO627.out⟩, ⟨by repeat (first | (with_reducible first | exact HB.out | apply below_alloc | apply pw_below_drewN | apply below_drew1) | exact HB.out)⟩⟩
            ·rw [if_neg c34] at H
             have c34b0 : ((t620.length : Int) == (t625.length : Int)) = false := beq_eq_false_iff_ne.mpr c34
             have c34b1 : ((t620.length : Int) != (t625.length : Int)) = true := bne_iff_ne.mpr c34
             have c34b2 : (t620.length == t625.length) = false := by first | simpa using c34 | (simp at c34 ⊢; omega)
             have H' := Aside0.mk H
             clear H
             obtain ⟨Ao48, co48, eo48⟩ := Kd.R_slice HO624.out
             subst eo48
             obtain ⟨Ao49, co49, eo49⟩ := Kd.R_slice HO627.out
             subst eo49
             go_wp2
             go_meet
             case rel => exact ⟨_, (true), sd_, H', ⟨by have := HJ6.out; have := HJ14.out; have := HK3.out; first | omega | exact Nat.le_refl _⟩, ⟨by (with_reducible repeat (first | apply Kd.R_alloc | apply Kd.R_drewN | apply Kd.R_drew)); exact Kd.R_mono HO_12.out (fun _ hk => hk.2)⟩, ⟨by (with_reducible repeat (first | apply Kd.R_alloc | apply Kd.R_drewN | apply Kd.R_drew)); exact Kd.R_mono HO624.out (fun _ hk => hk.2)⟩, ⟨by (with_reducible repeat (first | apply Kd.R_alloc | apply Kd.R_drewN | apply Kd.R_drew)); exact HO627.out⟩, ⟨by repeat (first | (with_reducible first | exact HB.out | apply below_alloc | apply pw_below_drewN | apply below_drew1) | exact HB.out)⟩⟩
           ·rw [if_neg c33] at H
            have c33b0 : (t622 == 0) = false := beq_eq_false_iff_ne.mpr c33
            have c33b1 : (t622 != 0) = true := bne_iff_ne.mpr c33
            (first | rw [c33b0] | (simp only [i64_w, i32_w]; rw [c33b0]) | skip)
            have H' := Aside0.mk H
            clear H
            go_wp2
            go_meet
            case rel => exact ⟨_, (true), sd_, H', ⟨by have := HJ6.out; have := HJ14.out; have := HK3.out; first | omega | exact Nat.le_refl _⟩, ⟨by (with_reducible repeat (first | apply Kd.R_alloc | apply Kd.R_drewN | apply Kd.R_drew)); exact Kd.R_mono HO_12.out (fun _ hk => hk.2)⟩, ⟨by (with_reducible repeat (first | apply Kd.R_alloc | apply Kd.R_drewN | apply Kd.R_drew)); exact Kd.R_mono HO624.out (fun _ hk => hk.2)⟩, ⟨by (with_reducible repeat (first | apply Kd.R_alloc | apply Kd.R_drewN | apply Kd.R_drew)); exact HO627.out⟩, ⟨by repeat (first | (with_reducible first | exact HB.out | apply below_alloc | apply pw_below_drewN | apply below_drew1) | exact HB.out)⟩⟩
          case rest => as_aux_lemma =>
           clear HC29
           try clear c1
           try clear c2
           try clear p2
           try clear c3
           try clear c4
           try clear p6
           try clear q6
           try clear hx6
           try clear c9
           try clear c9b0
           try clear c9b1
           try clear c10
           try clear c10b0
           try clear c10b1
           try clear c11
           try clear c11b0
           try clear c11b1
           try clear c12
           try clear c18
           try clear c18b0
           try clear c18b1
           try clear c19
           try clear c19b0
           try clear c19b1
           try clear c20
           try clear c21
           try clear c21b0
           try clear c22
           try clear c22b0
           try clear c23
           try clear c23b0
           try clear c24
           try clear c27
           try clear c33
           try clear c33b0
           try clear c33b1
           try clear c34
           try clear c34b0
           try clear c34b1
           try clear c34b2
           try clear c35
           try clear c35b0
           try clear c35b1
           try clear c35b2
           try clear c36
           try clear c36b0
           try clear hx616_0
           try clear p2
           try clear p616
           try clear q616
           obtain ⟨kq, x129_28, rfl, HA, HJ28, HO_12, HO_20, HO_23, HB⟩ := hcut
           cases kq with
           | zero => exact absurd HA.out (by simp [cohousingtop_TopTruth.j3])
           | succ kj28 =>
            have H := HA.out
            clear HA
            simp only [cohousingtop_TopTruth.j3] at H
            by_cases c50 : x129_28 = true
            ·subst c50
             have H1 : (some false) = some true := by rw [if_pos rfl] at H; exact H
             clear H
             have H := H1
             clear H1
             exact absurd (Option.some.inj H) (by decide)
            ·replace c50 := Bool.eq_false_iff.mpr c50
             subst c50
             have H1 : (cohousingtop_TopTruth.l1 kj28 a0 l4 t608 t609 t620 t628 t621 t625 (t625.length : Int) 0) = some true := by rw [if_neg (show ¬ (false = true) by decide)] at H; exact H
             clear H
             have H := H1
             clear H1
             have H' := Aside0.mk H
             clear H
             obtain ⟨Ao51, co51, eo51⟩ := Kd.R_slice HO_23.out
             subst eo51
             go_wp2
             go_loopg [11, 25, 133] kj28 (fun kq v11 v25 v133 w' => ∃ (x11_5 : Bool) (x25_5 : Int) (x133_5 : Int), v11 = .bool x11_5 ∧ v25 = .int .i64 x25_5 ∧ v133 = .int .i64 x133_5 ∧ Aside0 (cohousingtop_TopTruth.l1 kq a0 l4 x11_5 t609 t620 t628 x25_5 t625 (t625.length : Int) x133_5 = some true) ∧ Aside0 (kq ≤ kj28) ∧ Aside0 (Kd.R k40 40 w' w.heap.size (fun k_ => some k_ ≠ (v623 : Value).ownBlock) v612 t609) ∧ Aside0 (Kd.R k40 40 w' w.heap.size (fun k_ => some k_ ≠ (v612 : Value).ownBlock) v623 t620) ∧ Aside0 (Kd.R (Kd.int .i64) 3 w' w.heap.size (fun _ => True) (.slice Ao51 t625.length co51) t625) ∧ Aside0 (Below w.heap.size w w'))
             case atStart => exact ⟨(t608), (t621), (0), sd_, sd_, sd_, H', ⟨Nat.le_refl _⟩, ⟨by (with_reducible repeat (first | apply Kd.R_alloc | apply Kd.R_drewN | apply Kd.R_drew)); exact HO_12.out⟩, ⟨by (with_reducible repeat (first | apply Kd.R_alloc | apply Kd.R_drewN | apply Kd.R_drew)); exact HO_20.out⟩, ⟨by (with_reducible repeat (first | apply Kd.R_alloc | apply Kd.R_drewN | apply Kd.R_drew)); exact HO_23.out⟩, ⟨by repeat (first | (with_reducible first | exact HB.out | apply below_alloc | apply pw_below_drewN | apply below_drew1) | exact HB.out)⟩⟩
             case round => as_aux_lemma =>
              clear H'
              try clear c1
              try clear c2
              try clear p2
              try clear c3
              try clear c4
              try clear c5
              try clear p6
              try clear q6
              try clear hx6
              try clear c9
              try clear c9b0
              try clear c9b1
              try clear c10
              try clear c10b0
              try clear c10b1
              try clear c11
              try clear c11b0
              try clear c11b1
              try clear c12
              try clear c18
              try clear c18b0
              try clear c18b1
              try clear c19
              try clear c19b0
              try clear c19b1
              try clear c20
              try clear c21
              try clear c21b0
              try clear c22
              try clear c22b0
              try clear c23
              try clear c23b0
              try clear c24
              try clear c27
              try clear c33
              try clear c33b0
              try clear c33b1
              try clear c34
              try clear c34b0
              try clear c34b1
              try clear c34b2
              try clear c35
              try clear c35b0
              try clear c35b1
              try clear c35b2
              try clear c36
              try clear c36b0
              try clear c50
              try clear hx616_0
              try clear p2
              try clear p6
              try clear p616
              try clear q6
              try clear q616
              obtain ⟨x11_5, x25_5, x133_5, rfl, rfl, rfl, HA, HK5, HO_12, HO_20, HO_131, HB⟩ := hrel
              cases gk with
              | zero => exact absurd HA.out (by simp [cohousingtop_TopTruth.l1])
              | succ k5 =>
               have H := HA.out
               clear HA
               simp only [cohousingtop_TopTruth.l1] at H
               by_cases c52 : x133_5 < (t625.length : Int)
               ·rw [if_pos c52] at H
                have c52b0 : decide (x133_5 < (t625.length : Int)) = true := decide_eq_true c52
                clear c52
                by_cases c53 : 0 ≤ x133_5
                ·rw [if_pos c53] at H
                 have c53b0 : decide (0 ≤ x133_5) = true := decide_eq_true c53
                 clear c53
                 by_cases c54 : x133_5 < (t625.length : Int)
                 ·rw [if_pos c54] at H
                  have c54b0 : decide (x133_5 < (t625.length : Int)) = true := decide_eq_true c54
                  clear c54
                  by_cases c55 : 0 ≤ t628
                  ·rw [if_pos c55] at H
                   have c55b0 : decide (0 ≤ t628) = true := decide_eq_true c55
                   clear c55
                   by_cases c56 : t628 < (l4.length : Int)
                   ·rw [if_pos c56] at H
                    have c56b0 : decide (t628 < (l4.length : Int)) = true := decide_eq_true c56
                    clear c56
                    by_cases c57 : 0 ≤ (rd t625 x133_5)
                    ·rw [if_pos c57] at H
                     have c57b0 : decide (0 ≤ (rd t625 x133_5)) = true := decide_eq_true c57
                     clear c57
                     by_cases c58 : (rd t625 x133_5) < (l4.length : Int)
                     ·rw [if_pos c58] at H
                      have c58b0 : decide ((rd t625 x133_5) < (l4.length : Int)) = true := decide_eq_true c58
                      clear c58
                      replace H := Option.bind_eq_some_iff.mp H
                      obtain ⟨t633, A590, H⟩ := H
                      replace H : (if x11_5 = true then (if x133_5 < (t620.length : Int) then (if (rd_T40 t620 x133_5).f3 = true then (if ((rd_T40 t620 x133_5).f1) = t633 then (if x133_5 < (t609.length : Int) then (if ((rd_T40 t609 x133_5).f2.f0) ≤ t633 then (if t633 ≤ ((rd_T40 t609 x133_5).f2.f1) then (if ((rd_T40 t609 x133_5).f3 = true) then (cohousingtop_TopTruth.l1 k5 a0 l4 (((rd_T40 t609 x133_5).f1) == t633) t609 t620 t628 (wrap64 (x25_5 + t633)) t625 (t625.length : Int) (wrap64 (x133_5 + 1))) else (cohousingtop_TopTruth.l1 k5 a0 l4 true t609 t620 t628 (wrap64 (x25_5 + t633)) t625 (t625.length : Int) (wrap64 (x133_5 + 1)))) else (cohousingtop_TopTruth.l1 k5 a0 l4 false t609 t620 t628 (wrap64 (x25_5 + t633)) t625 (t625.length : Int) (wrap64 (x133_5 + 1)))) else (cohousingtop_TopTruth.l1 k5 a0 l4 false t609 t620 t628 (wrap64 (x25_5 + t633)) t625 (t625.length : Int) (wrap64 (x133_5 + 1)))) else (none)) else (cohousingtop_TopTruth.l1 k5 a0 l4 false t609 t620 t628 (wrap64 (x25_5 + t633)) t625 (t625.length : Int) (wrap64 (x133_5 + 1)))) else (cohousingtop_TopTruth.l1 k5 a0 l4 false t609 t620 t628 (wrap64 (x25_5 + t633)) t625 (t625.length : Int) (wrap64 (x133_5 + 1)))) else (none)) else (cohousingtop_TopTruth.l1 k5 a0 l4 false t609 t620 t628 (wrap64 (x25_5 + t633)) t625 (t625.length : Int) (wrap64 (x133_5 + 1)))) = some true := H
                      have A59 := Aside0.mk A590
                      clear A590
                      by_cases c60 : x11_5 = true
                      ·subst c60
                       have H1 : (if x133_5 < (t620.length : Int) then (if (rd_T40 t620 x133_5).f3 = true then (if ((rd_T40 t620 x133_5).f1) = t633 then (if x133_5 < (t609.length : Int) then (if ((rd_T40 t609 x133_5).f2.f0) ≤ t633 then (if t633 ≤ ((rd_T40 t609 x133_5).f2.f1) then (if ((rd_T40 t609 x133_5).f3 = true) then (cohousingtop_TopTruth.l1 k5 a0 l4 (((rd_T40 t609 x133_5).f1) == t633) t609 t620 t628 (wrap64 (x25_5 + t633)) t625 (t625.length : Int) (wrap64 (x133_5 + 1))) else (cohousingtop_TopTruth.l1 k5 a0 l4 true t609 t620 t628 (wrap64 (x25_5 + t633)) t625 (t625.length : Int) (wrap64 (x133_5 + 1)))) else (cohousingtop_TopTruth.l1 k5 a0 l4 false t609 t620 t628 (wrap64 (x25_5 + t633)) t625 (t625.length : Int) (wrap64 (x133_5 + 1)))) else (cohousingtop_TopTruth.l1 k5 a0 l4 false t609 t620 t628 (wrap64 (x25_5 + t633)) t625 (t625.length : Int) (wrap64 (x133_5 + 1)))) else (none)) else (cohousingtop_TopTruth.l1 k5 a0 l4 false t609 t620 t628 (wrap64 (x25_5 + t633)) t625 (t625.length : Int) (wrap64 (x133_5 + 1)))) else (cohousingtop_TopTruth.l1 k5 a0 l4 false t609 t620 t628 (wrap64 (x25_5 + t633)) t625 (t625.length : Int) (wrap64 (x133_5 + 1)))) else (none)) = some true := by rw [if_pos rfl] at H; exact H
                       clear H
                       have H := H1
                       clear H1
                       by_cases c61 : x133_5 < (t620.length : Int)
                       ·rw [if_pos c61] at H
                        have c61b0 : decide (x133_5 < (t620.length : Int)) = true := decide_eq_true c61
                        clear c61
                        obtain ⟨bq62, hbq62⟩ : ∃ b_ : Bool, b_ = ((rd_T40 t620 x133_5).f3) := ⟨_, rfl⟩
                        replace H : (if bq62 = true then (if ((rd_T40 t620 x133_5).f1) = t633 then (if x133_5 < (t609.length : Int) then (if ((rd_T40 t609 x133_5).f2.f0) ≤ t633 then (if t633 ≤ ((rd_T40 t609 x133_5).f2.f1) then (if ((rd_T40 t609 x133_5).f3 = true) then (cohousingtop_TopTruth.l1 k5 a0 l4 (((rd_T40 t609 x133_5).f1) == t633) t609 t620 t628 (wrap64 (x25_5 + t633)) t625 (t625.length : Int) (wrap64 (x133_5 + 1))) else (cohousingtop_TopTruth.l1 k5 a0 l4 true t609 t620 t628 (wrap64 (x25_5 + t633)) t625 (t625.length : Int) (wrap64 (x133_5 + 1)))) else (cohousingtop_TopTruth.l1 k5 a0 l4 false t609 t620 t628 (wrap64 (x25_5 + t633)) t625 (t625.length : Int) (wrap64 (x133_5 + 1)))) else (cohousingtop_TopTruth.l1 k5 a0 l4 false t609 t620 t628 (wrap64 (x25_5 + t633)) t625 (t625.length : Int) (wrap64 (x133_5 + 1)))) else (none)) else (cohousingtop_TopTruth.l1 k5 a0 l4 false t609 t620 t628 (wrap64 (x25_5 + t633)) t625 (t625.length : Int) (wrap64 (x133_5 + 1)))) else (cohousingtop_TopTruth.l1 k5 a0 l4 false t609 t620 t628 (wrap64 (x25_5 + t633)) t625 (t625.length : Int) (wrap64 (x133_5 + 1)))) = some true := by rw [← hbq62] at H; exact H
                        have Nbq62 := Aside0.mk hbq62
                        clear hbq62
                        by_cases c63 : bq62 = true
                        ·subst c63
                         have H1 : (if ((rd_T40 t620 x133_5).f1) = t633 then (if x133_5 < (t609.length : Int) then (if ((rd_T40 t609 x133_5).f2.f0) ≤ t633 then (if t633 ≤ ((rd_T40 t609 x133_5).f2.f1) then (if ((rd_T40 t609 x133_5).f3 = true) then (cohousingtop_TopTruth.l1 k5 a0 l4 (((rd_T40 t609 x133_5).f1) == t633) t609 t620 t628 (wrap64 (x25_5 + t633)) t625 (t625.length : Int) (wrap64 (x133_5 + 1))) else (cohousingtop_TopTruth.l1 k5 a0 l4 true t609 t620 t628 (wrap64 (x25_5 + t633)) t625 (t625.length : Int) (wrap64 (x133_5 + 1)))) else (cohousingtop_TopTruth.l1 k5 a0 l4 false t609 t620 t628 (wrap64 (x25_5 + t633)) t625 (t625.length : Int) (wrap64 (x133_5 + 1)))) else (cohousingtop_TopTruth.l1 k5 a0 l4 false t609 t620 t628 (wrap64 (x25_5 + t633)) t625 (t625.length : Int) (wrap64 (x133_5 + 1)))) else (none)) else (cohousingtop_TopTruth.l1 k5 a0 l4 false t609 t620 t628 (wrap64 (x25_5 + t633)) t625 (t625.length : Int) (wrap64 (x133_5 + 1)))) = some true := by rw [if_pos rfl] at H; exact H
                         clear H
                         have H := H1
                         clear H1
                         by_cases c64 : ((rd_T40 t620 x133_5).f1) = t633
                         ·rw [if_pos c64] at H
                          have c64b0 : (((rd_T40 t620 x133_5).f1) == t633) = true := beq_iff_eq.mpr c64
                          have c64b1 : (((rd_T40 t620 x133_5).f1) != t633) = false := bne_eq_false_iff_eq.mpr c64
                          clear c64
                          by_cases c65 : x133_5 < (t609.length : Int)
                          ·rw [if_pos c65] at H
                           have c65b0 : decide (x133_5 < (t609.length : Int)) = true := decide_eq_true c65
                           clear c65
                           by_cases c66 : ((rd_T40 t609 x133_5).f2.f0) ≤ t633
                           ·rw [if_pos c66] at H
                            have c66b0 : decide (((rd_T40 t609 x133_5).f2.f0) ≤ t633) = true := decide_eq_true c66
                            clear c66
                            by_cases c67 : t633 ≤ ((rd_T40 t609 x133_5).f2.f1)
                            ·rw [if_pos c67] at H
                             have c67b0 : decide (t633 ≤ ((rd_T40 t609 x133_5).f2.f1)) = true := decide_eq_true c67
                             clear c67
                             obtain ⟨bq68, hbq68⟩ : ∃ b_ : Bool, b_ = ((rd_T40 t609 x133_5).f3) := ⟨_, rfl⟩
                             replace H : (if (bq68 = true) then (cohousingtop_TopTruth.l1 k5 a0 l4 (((rd_T40 t609 x133_5).f1) == t633) t609 t620 t628 (wrap64 (x25_5 + t633)) t625 (t625.length : Int) (wrap64 (x133_5 + 1))) else (cohousingtop_TopTruth.l1 k5 a0 l4 true t609 t620 t628 (wrap64 (x25_5 + t633)) t625 (t625.length : Int) (wrap64 (x133_5 + 1)))) = some true := by rw [← hbq68] at H; exact H
                             have Nbq68 := Aside0.mk hbq68
                             clear hbq68
                             by_cases c69 : (bq68 = true)
                             ·as_aux_lemma =>
                               subst c69
                               have H1 : (cohousingtop_TopTruth.l1 k5 a0 l4 (((rd_T40 t609 x133_5).f1) == t633) t609 t620 t628 (wrap64 (x25_5 + t633)) t625 (t625.length : Int) (wrap64 (x133_5 + 1))) = some true := by rw [if_pos rfl] at H; exact H
                               clear H
                               have H := H1
                               clear H1
                               have H' := Aside0.mk H
                               clear H
                               have p630 : 0 ≤ (x133_5 : Int) := od_
                               have q630 : x133_5 < (t625.length : Int) := od_
                               obtain ⟨ad630, e630, hx630_0⟩ := Kd.at_int (Kd.R_reads' HO_131.out).2.2 x133_5 p630 q630
                               cases e630
                               replace p630 := eq_true p630
                               replace q630 := eq_true q630
                               try go_wp2
                               have n0_ := Aside0.mk (Kd.R_drew HO_12.out)
                               have n1_ := Aside0.mk (Kd.R_drew HO_20.out)
                               have n2_ := Aside0.mk (Kd.R_drew HO_131.out)
                               have n3_ := Aside0.mk (below_drew1 HB.out)
                               clear HO_12
                               clear HO_20
                               clear HO_131
                               clear HB
                               have HO_12 := n0_
                               have HO_20 := n1_
                               have HO_131 := n2_
                               have HB := n3_
                               clear n0_ n1_ n2_ n3_
                               have p631 : 0 ≤ (t628 : Int) := od_
                               have q631 : t628 < (l4.length : Int) := od_
                               obtain ⟨ad631, e631, hx631_0⟩ := Kd.at_int HR4.out t628 p631 q631
                               have hw631_0 := hx631_0
                               cases e631
                               replace hx631_0 := (HB.out.cell (World.block_lt_of_cell? w _ hx631_0)).trans hx631_0
                               replace p631 := eq_true p631
                               replace q631 := eq_true q631
                               have p632 : 0 ≤ ((rd t625 x133_5) : Int) := od_
                               have q632 : (rd t625 x133_5) < (l4.length : Int) := od_
                               obtain ⟨ad632, e632, hx632_0⟩ := Kd.at_int HR4.out (rd t625 x133_5) p632 q632
                               have hw632_0 := hx632_0
                               obtain rfl : ad631 = ad632 := (by injection e632)
                               replace hx632_0 := (HB.out.cell (World.block_lt_of_cell? w _ hx632_0)).trans hx632_0
                               replace p632 := eq_true p632
                               replace q632 := eq_true q632
                               refine start_ (n := 11) (S := fun w' => w'.cell? (ad631.add (t628).toNat) = some (.int .i64 (rd l4 t628)) ∧ w'.cell? (ad631.add ((rd t625 x133_5)).toNat) = some (.int .i64 (rd l4 (rd t625 x133_5)))) (ds := []) #[n_, n_, n_, n_, n_, n_, n_, n_, n_, n_, n_] (by kernel_rfl) rfl rfl ⟨((HB.out.cell (World.block_lt_of_cell? w _ hw631_0)).trans hw631_0), ((HB.out.cell (World.block_lt_of_cell? w _ hw632_0)).trans hw632_0)⟩ (fun hHeld => ?_); refine with_tabW cohousingtop_TopTruth.tab22 cohousingtop_TopTruth.bits22 (fun HT_ HW_ => ?_)
                               generalize wr.drew = w70 at HO_12 HO_20 HO_131 HB hx631_0 hx632_0 hHeld ⊢
                               refine pu_ 0 138 (w_ 11 1) rfl HT_ ?_
                               refine pu_ 1 139 (w_ 11 3) rfl HT_ ?_
                               refine pu_ 2 140 (w_ 11 7) rfl HT_ ?_
                               refine pu_ 3 141 (w_ 11 15) rfl HT_ ?_
                               refine pu_ 5 143 (w_ 11 47) rfl HT_ ?_
                               refine pu_ 6 144 (w_ 11 111) rfl HT_ ?_
                               refine pu_ 7 145 (w_ 11 239) rfl HT_ ?_
                               refine ta_ 4 142 (w_ 11 255) rfl HT_ HW_ hHeld (by rintro w' ⟨s0, s1⟩; go_simp; with_reducible rfl) ?_
                               refine ta_ 8 146 (w_ 11 511) rfl HT_ HW_ hHeld (by rintro w' ⟨s0, s1⟩; go_simp; with_reducible rfl) ?_
                               refine one_ (i := 9) (N := some 147) (w_ 11 1023) rfl rfl (one_of HT_.out (by kernel_rfl)) (by decide) (fun K hK => ?_)
                               refine goes_ Try.func24 (by kernel_rfl) rfl #[.int .i64 a0, .int .i64 (rd l4 t628), .int .i64 (rd l4 (rd t625 x133_5))] (by rfl) rfl rfl (by (try simp only [List.map_toArray, List.map_cons, List.map_nil]); first | done | rfl | (simp only [List.length_drop, List.length_take]; rfl)) ?_
                               with_reducible refine (cohousingref29_Right.calls k5 a0 (rd l4 t628) (rd l4 (rd t625 x133_5)) t633 _ A59.out).mono ?_
                               rintro e w71 ⟨rfl, hb⟩
                               refine ⟨_, rfl, ?_⟩
                               have n0_ := Aside0.mk (Kd.R_below (rr_ HO_12) hb)
                               have n1_ := Aside0.mk (Kd.R_below (rr_ HO_20) hb)
                               have n2_ := Aside0.mk (Kd.R_below (rr_ HO_131) hb)
                               have n3_ := Aside0.mk (below_step (bb_ HB) hb)
                               clear HO_12
                               clear HO_20
                               clear HO_131
                               clear HB
                               have HO_12 := n0_
                               have HO_20 := n1_
                               have HO_131 := n2_
                               have HB := n3_
                               clear n0_ n1_ n2_ n3_
                               (try clear hb)
                               (try clear hb2)
                               (try clear hk)
                               (try clear hi)
                               refine hK.out _ _ ⟨((HB.out.cell (World.block_lt_of_cell? w _ hw631_0)).trans hw631_0), ((HB.out.cell (World.block_lt_of_cell? w _ hw632_0)).trans hw632_0)⟩ (fun hHeld => ?_)
                               clear hK K
                               refine norm_ (a' := ?_) ?_ ?_
                               rotate_left
                               ·show Act.put _ (some 147) _ = _
                                simp only [Act.put, sI_, s0_, sS_, i64_w, i32_w]
                                rfl
                               refine pu_ 10 28 (w_ 11 2047) rfl HT_ ?_
                               refine done_ (done_of HT_.out (by kernel_rfl)) ?_
                               obtain ⟨Ao72, co72, eo72⟩ := Kd.R_slice HO_20.out
                               subst eo72
                               have p634 : 0 ≤ (x133_5 : Int) := od_
                               have q634 : x133_5 < (t620.length : Int) := od_
                               obtain ⟨ad634, e634, hx634_0, hx634_1, hx634_2, hx634_3, hx634_4⟩ := at_T40 (Kd.R_reads' HO_20.out).2.2 x133_5 p634 q634
                               (try rw [← Nbq62.out] at hx634_4)
                               (try rw [← Nbq68.out] at hx634_4)
                               cases e634
                               replace p634 := eq_true p634
                               replace q634 := eq_true q634
                               have p635 : 0 ≤ (x133_5 : Int) := od_
                               have q635 : x133_5 < (t620.length : Int) := od_
                               obtain ⟨ad635, e635, hx635_0, hx635_1, hx635_2, hx635_3, hx635_4⟩ := at_T40 (Kd.R_reads' HO_20.out).2.2 x133_5 p635 q635
                               (try rw [← Nbq62.out] at hx635_4)
                               (try rw [← Nbq68.out] at hx635_4)
                               obtain rfl : ad634 = ad635 := (by injection e635)
                               replace p635 := eq_true p635
                               replace q635 := eq_true q635
                               obtain ⟨Ao73, co73, eo73⟩ := Kd.R_slice HO_12.out
                               subst eo73
                               have p636 : 0 ≤ (x133_5 : Int) := od_
                               have q636 : x133_5 < (t609.length : Int) := od_
                               obtain ⟨ad636, e636, hx636_0, hx636_1, hx636_2, hx636_3, hx636_4⟩ := at_T40 (Kd.R_reads' HO_12.out).2.2 x133_5 p636 q636
                               (try rw [← Nbq62.out] at hx636_4)
                               (try rw [← Nbq68.out] at hx636_4)
                               cases e636
                               replace p636 := eq_true p636
                               replace q636 := eq_true q636
                               have p637 : 0 ≤ (x133_5 : Int) := od_
                               have q637 : x133_5 < (t609.length : Int) := od_
                               obtain ⟨ad637, e637, hx637_0, hx637_1, hx637_2, hx637_3, hx637_4⟩ := at_T40 (Kd.R_reads' HO_12.out).2.2 x133_5 p637 q637
                               (try rw [← Nbq62.out] at hx637_4)
                               (try rw [← Nbq68.out] at hx637_4)
                               obtain rfl : ad636 = ad637 := (by injection e637)
                               replace p637 := eq_true p637
                               replace q637 := eq_true q637
                               have p638 : 0 ≤ (x133_5 : Int) := od_
                               have q638 : x133_5 < (t609.length : Int) := od_
                               obtain ⟨ad638, e638, hx638_0, hx638_1, hx638_2, hx638_3, hx638_4⟩ := at_T40 (Kd.R_reads' HO_12.out).2.2 x133_5 p638 q638
                               (try rw [← Nbq62.out] at hx638_4)
                               (try rw [← Nbq68.out] at hx638_4)
                               obtain rfl : ad636 = ad638 := (by injection e638)
                               replace p638 := eq_true p638
                               replace q638 := eq_true q638
                               have p639 : 0 ≤ (x133_5 : Int) := od_
                               have q639 : x133_5 < (t609.length : Int) := od_
                               obtain ⟨ad639, e639, hx639_0, hx639_1, hx639_2, hx639_3, hx639_4⟩ := at_T40 (Kd.R_reads' HO_12.out).2.2 x133_5 p639 q639
                               (try rw [← Nbq62.out] at hx639_4)
                               (try rw [← Nbq68.out] at hx639_4)
                               obtain rfl : ad636 = ad639 := (by injection e639)
                               replace p639 := eq_true p639
                               replace q639 := eq_true q639
                               try go_wp2
                               go_roundg k5
                               case measure => have := HJ6.out; have := HJ14.out; have := HK3.out; have := HJ28.out; have := HK5.out; omega
                               case rel => exact ⟨((((rd_T40 t609 x133_5).f1) == t633)), (wrap64 (x25_5 + t633)), (wrap64 (x133_5 + 1)), sd_, sd_, sd_, H', ⟨by have := HJ6.out; have := HJ14.out; have := HK3.out; have := HJ28.out; have := HK5.out; omega⟩, ⟨by (with_reducible repeat (first | apply Kd.R_alloc | apply Kd.R_drewN | apply Kd.R_drew)); exact HO_12.out⟩, ⟨by (with_reducible repeat (first | apply Kd.R_alloc | apply Kd.R_drewN | apply Kd.R_drew)); exact HO_20.out⟩, ⟨by (with_reducible repeat (first | apply Kd.R_alloc | apply Kd.R_drewN | apply Kd.R_drew)); exact HO_131.out⟩, ⟨by repeat (first | (with_reducible first | exact HB.out | apply below_alloc | apply pw_below_drewN | apply below_drew1) | exact HB.out)⟩⟩
                             ·as_aux_lemma =>
                               replace c69 := Bool.eq_false_iff.mpr c69
                               subst c69
                               have H1 : (cohousingtop_TopTruth.l1 k5 a0 l4 true t609 t620 t628 (wrap64 (x25_5 + t633)) t625 (t625.length : Int) (wrap64 (x133_5 + 1))) = some true := by rw [if_neg (show ¬ (false = true) by decide)] at H; exact H
                               clear H
                               have H := H1
                               clear H1
                               have H' := Aside0.mk H
                               clear H
                               have p630 : 0 ≤ (x133_5 : Int) := od_
                               have q630 : x133_5 < (t625.length : Int) := od_
                               obtain ⟨ad630, e630, hx630_0⟩ := Kd.at_int (Kd.R_reads' HO_131.out).2.2 x133_5 p630 q630
                               cases e630
                               replace p630 := eq_true p630
                               replace q630 := eq_true q630
                               try go_wp2
                               have n0_ := Aside0.mk (Kd.R_drew HO_12.out)
                               have n1_ := Aside0.mk (Kd.R_drew HO_20.out)
                               have n2_ := Aside0.mk (Kd.R_drew HO_131.out)
                               have n3_ := Aside0.mk (below_drew1 HB.out)
                               clear HO_12
                               clear HO_20
                               clear HO_131
                               clear HB
                               have HO_12 := n0_
                               have HO_20 := n1_
                               have HO_131 := n2_
                               have HB := n3_
                               clear n0_ n1_ n2_ n3_
                               have p631 : 0 ≤ (t628 : Int) := od_
                               have q631 : t628 < (l4.length : Int) := od_
                               obtain ⟨ad631, e631, hx631_0⟩ := Kd.at_int HR4.out t628 p631 q631
                               have hw631_0 := hx631_0
                               cases e631
                               replace hx631_0 := (HB.out.cell (World.block_lt_of_cell? w _ hx631_0)).trans hx631_0
                               replace p631 := eq_true p631
                               replace q631 := eq_true q631
                               have p632 : 0 ≤ ((rd t625 x133_5) : Int) := od_
                               have q632 : (rd t625 x133_5) < (l4.length : Int) := od_
                               obtain ⟨ad632, e632, hx632_0⟩ := Kd.at_int HR4.out (rd t625 x133_5) p632 q632
                               have hw632_0 := hx632_0
                               obtain rfl : ad631 = ad632 := (by injection e632)
                               replace hx632_0 := (HB.out.cell (World.block_lt_of_cell? w _ hx632_0)).trans hx632_0
                               replace p632 := eq_true p632
                               replace q632 := eq_true q632
                               refine start_ (n := 11) (S := fun w' => w'.cell? (ad631.add (t628).toNat) = some (.int .i64 (rd l4 t628)) ∧ w'.cell? (ad631.add ((rd t625 x133_5)).toNat) = some (.int .i64 (rd l4 (rd t625 x133_5)))) (ds := []) #[n_, n_, n_, n_, n_, n_, n_, n_, n_, n_, n_] (by kernel_rfl) rfl rfl ⟨((HB.out.cell (World.block_lt_of_cell? w _ hw631_0)).trans hw631_0), ((HB.out.cell (World.block_lt_of_cell? w _ hw632_0)).trans hw632_0)⟩ (fun hHeld => ?_); refine with_tabW cohousingtop_TopTruth.tab22 cohousingtop_TopTruth.bits22 (fun HT_ HW_ => ?_)
                               generalize wr.drew = w74 at HO_12 HO_20 HO_131 HB hx631_0 hx632_0 hHeld ⊢
                               refine pu_ 0 138 (w_ 11 1) rfl HT_ ?_
                               refine pu_ 1 139 (w_ 11 3) rfl HT_ ?_
                               refine pu_ 2 140 (w_ 11 7) rfl HT_ ?_
                               refine pu_ 3 141 (w_ 11 15) rfl HT_ ?_
                               refine pu_ 5 143 (w_ 11 47) rfl HT_ ?_
                               refine pu_ 6 144 (w_ 11 111) rfl HT_ ?_
                               refine pu_ 7 145 (w_ 11 239) rfl HT_ ?_
                               refine ta_ 4 142 (w_ 11 255) rfl HT_ HW_ hHeld (by rintro w' ⟨s0, s1⟩; go_simp; with_reducible rfl) ?_
                               refine ta_ 8 146 (w_ 11 511) rfl HT_ HW_ hHeld (by rintro w' ⟨s0, s1⟩; go_simp; with_reducible rfl) ?_
                               refine one_ (i := 9) (N := some 147) (w_ 11 1023) rfl rfl (one_of HT_.out (by kernel_rfl)) (by decide) (fun K hK => ?_)
                               refine goes_ Try.func24 (by kernel_rfl) rfl #[.int .i64 a0, .int .i64 (rd l4 t628), .int .i64 (rd l4 (rd t625 x133_5))] (by rfl) rfl rfl (by (try simp only [List.map_toArray, List.map_cons, List.map_nil]); first | done | rfl | (simp only [List.length_drop, List.length_take]; rfl)) ?_
                               with_reducible refine (cohousingref29_Right.calls k5 a0 (rd l4 t628) (rd l4 (rd t625 x133_5)) t633 _ A59.out).mono ?_
                               rintro e w75 ⟨rfl, hb⟩
                               refine ⟨_, rfl, ?_⟩
                               have n0_ := Aside0.mk (Kd.R_below (rr_ HO_12) hb)
                               have n1_ := Aside0.mk (Kd.R_below (rr_ HO_20) hb)
                               have n2_ := Aside0.mk (Kd.R_below (rr_ HO_131) hb)
                               have n3_ := Aside0.mk (below_step (bb_ HB) hb)
                               clear HO_12
                               clear HO_20
                               clear HO_131
                               clear HB
                               have HO_12 := n0_
                               have HO_20 := n1_
                               have HO_131 := n2_
                               have HB := n3_
                               clear n0_ n1_ n2_ n3_
                               (try clear hb)
                               (try clear hb2)
                               (try clear hk)
                               (try clear hi)
                               refine hK.out _ _ ⟨((HB.out.cell (World.block_lt_of_cell? w _ hw631_0)).trans hw631_0), ((HB.out.cell (World.block_lt_of_cell? w _ hw632_0)).trans hw632_0)⟩ (fun hHeld => ?_)
                               clear hK K
                               refine norm_ (a' := ?_) ?_ ?_
                               rotate_left
                               ·show Act.put _ (some 147) _ = _
                                simp only [Act.put, sI_, s0_, sS_, i64_w, i32_w]
                                rfl
                               refine pu_ 10 28 (w_ 11 2047) rfl HT_ ?_
                               refine done_ (done_of HT_.out (by kernel_rfl)) ?_
                               obtain ⟨Ao76, co76, eo76⟩ := Kd.R_slice HO_20.out
                               subst eo76
                               have p634 : 0 ≤ (x133_5 : Int) := od_
                               have q634 : x133_5 < (t620.length : Int) := od_
                               obtain ⟨ad634, e634, hx634_0, hx634_1, hx634_2, hx634_3, hx634_4⟩ := at_T40 (Kd.R_reads' HO_20.out).2.2 x133_5 p634 q634
                               (try rw [← Nbq62.out] at hx634_4)
                               (try rw [← Nbq68.out] at hx634_4)
                               cases e634
                               replace p634 := eq_true p634
                               replace q634 := eq_true q634
                               have p635 : 0 ≤ (x133_5 : Int) := od_
                               have q635 : x133_5 < (t620.length : Int) := od_
                               obtain ⟨ad635, e635, hx635_0, hx635_1, hx635_2, hx635_3, hx635_4⟩ := at_T40 (Kd.R_reads' HO_20.out).2.2 x133_5 p635 q635
                               (try rw [← Nbq62.out] at hx635_4)
                               (try rw [← Nbq68.out] at hx635_4)
                               obtain rfl : ad634 = ad635 := (by injection e635)
                               replace p635 := eq_true p635
                               replace q635 := eq_true q635
                               obtain ⟨Ao77, co77, eo77⟩ := Kd.R_slice HO_12.out
                               subst eo77
                               have p636 : 0 ≤ (x133_5 : Int) := od_
                               have q636 : x133_5 < (t609.length : Int) := od_
                               obtain ⟨ad636, e636, hx636_0, hx636_1, hx636_2, hx636_3, hx636_4⟩ := at_T40 (Kd.R_reads' HO_12.out).2.2 x133_5 p636 q636
                               (try rw [← Nbq62.out] at hx636_4)
                               (try rw [← Nbq68.out] at hx636_4)
                               cases e636
                               replace p636 := eq_true p636
                               replace q636 := eq_true q636
                               have p637 : 0 ≤ (x133_5 : Int) := od_
                               have q637 : x133_5 < (t609.length : Int) := od_
                               obtain ⟨ad637, e637, hx637_0, hx637_1, hx637_2, hx637_3, hx637_4⟩ := at_T40 (Kd.R_reads' HO_12.out).2.2 x133_5 p637 q637
                               (try rw [← Nbq62.out] at hx637_4)
                               (try rw [← Nbq68.out] at hx637_4)
                               obtain rfl : ad636 = ad637 := (by injection e637)
                               replace p637 := eq_true p637
                               replace q637 := eq_true q637
                               have p638 : 0 ≤ (x133_5 : Int) := od_
                               have q638 : x133_5 < (t609.length : Int) := od_
                               obtain ⟨ad638, e638, hx638_0, hx638_1, hx638_2, hx638_3, hx638_4⟩ := at_T40 (Kd.R_reads' HO_12.out).2.2 x133_5 p638 q638
                               (try rw [← Nbq62.out] at hx638_4)
                               (try rw [← Nbq68.out] at hx638_4)
                               obtain rfl : ad636 = ad638 := (by injection e638)
                               replace p638 := eq_true p638
                               replace q638 := eq_true q638
                               try go_wp2
                               go_roundg k5
                               case measure => have := HJ6.out; have := HJ14.out; have := HK3.out; have := HJ28.out; have := HK5.out; omega
                               case rel => exact ⟨(true), (wrap64 (x25_5 + t633)), (wrap64 (x133_5 + 1)), sd_, sd_, sd_, H', ⟨by have := HJ6.out; have := HJ14.out; have := HK3.out; have := HJ28.out; have := HK5.out; omega⟩, ⟨by (with_reducible repeat (first | apply Kd.R_alloc | apply Kd.R_drewN | apply Kd.R_drew)); exact HO_12.out⟩, ⟨by (with_reducible repeat (first | apply Kd.R_alloc | apply Kd.R_drewN | apply Kd.R_drew)); exact HO_20.out⟩, ⟨by (with_reducible repeat (first | apply Kd.R_alloc | apply Kd.R_drewN | apply Kd.R_drew)); exact HO_131.out⟩, ⟨by repeat (first | (with_reducible first | exact HB.out | apply below_alloc | apply pw_below_drewN | apply below_drew1) | exact HB.out)⟩⟩
                            ·as_aux_lemma =>
                              rw [if_neg c67] at H
                              have c67b0 : decide (t633 ≤ ((rd_T40 t609 x133_5).f2.f1)) = false := decide_eq_false c67
                              clear c67
                              have H' := Aside0.mk H
                              clear H
                              have p630 : 0 ≤ (x133_5 : Int) := od_
                              have q630 : x133_5 < (t625.length : Int) := od_
                              obtain ⟨ad630, e630, hx630_0⟩ := Kd.at_int (Kd.R_reads' HO_131.out).2.2 x133_5 p630 q630
                              cases e630
                              replace p630 := eq_true p630
                              replace q630 := eq_true q630
                              try go_wp2
                              have n0_ := Aside0.mk (Kd.R_drew HO_12.out)
                              have n1_ := Aside0.mk (Kd.R_drew HO_20.out)
                              have n2_ := Aside0.mk (Kd.R_drew HO_131.out)
                              have n3_ := Aside0.mk (below_drew1 HB.out)
                              clear HO_12
                              clear HO_20
                              clear HO_131
                              clear HB
                              have HO_12 := n0_
                              have HO_20 := n1_
                              have HO_131 := n2_
                              have HB := n3_
                              clear n0_ n1_ n2_ n3_
                              have p631 : 0 ≤ (t628 : Int) := od_
                              have q631 : t628 < (l4.length : Int) := od_
                              obtain ⟨ad631, e631, hx631_0⟩ := Kd.at_int HR4.out t628 p631 q631
                              have hw631_0 := hx631_0
                              cases e631
                              replace hx631_0 := (HB.out.cell (World.block_lt_of_cell? w _ hx631_0)).trans hx631_0
                              replace p631 := eq_true p631
                              replace q631 := eq_true q631
                              have p632 : 0 ≤ ((rd t625 x133_5) : Int) := od_
                              have q632 : (rd t625 x133_5) < (l4.length : Int) := od_
                              obtain ⟨ad632, e632, hx632_0⟩ := Kd.at_int HR4.out (rd t625 x133_5) p632 q632
                              have hw632_0 := hx632_0
                              obtain rfl : ad631 = ad632 := (by injection e632)
                              replace hx632_0 := (HB.out.cell (World.block_lt_of_cell? w _ hx632_0)).trans hx632_0
                              replace p632 := eq_true p632
                              replace q632 := eq_true q632
                              refine start_ (n := 11) (S := fun w' => w'.cell? (ad631.add (t628).toNat) = some (.int .i64 (rd l4 t628)) ∧ w'.cell? (ad631.add ((rd t625 x133_5)).toNat) = some (.int .i64 (rd l4 (rd t625 x133_5)))) (ds := []) #[n_, n_, n_, n_, n_, n_, n_, n_, n_, n_, n_] (by kernel_rfl) rfl rfl ⟨((HB.out.cell (World.block_lt_of_cell? w _ hw631_0)).trans hw631_0), ((HB.out.cell (World.block_lt_of_cell? w _ hw632_0)).trans hw632_0)⟩ (fun hHeld => ?_); refine with_tabW cohousingtop_TopTruth.tab22 cohousingtop_TopTruth.bits22 (fun HT_ HW_ => ?_)
                              generalize wr.drew = w78 at HO_12 HO_20 HO_131 HB hx631_0 hx632_0 hHeld ⊢
                              refine pu_ 0 138 (w_ 11 1) rfl HT_ ?_
                              refine pu_ 1 139 (w_ 11 3) rfl HT_ ?_
                              refine pu_ 2 140 (w_ 11 7) rfl HT_ ?_
                              refine pu_ 3 141 (w_ 11 15) rfl HT_ ?_
                              refine pu_ 5 143 (w_ 11 47) rfl HT_ ?_
                              refine pu_ 6 144 (w_ 11 111) rfl HT_ ?_
                              refine pu_ 7 145 (w_ 11 239) rfl HT_ ?_
                              refine ta_ 4 142 (w_ 11 255) rfl HT_ HW_ hHeld (by rintro w' ⟨s0, s1⟩; go_simp; with_reducible rfl) ?_
                              refine ta_ 8 146 (w_ 11 511) rfl HT_ HW_ hHeld (by rintro w' ⟨s0, s1⟩; go_simp; with_reducible rfl) ?_
                              refine one_ (i := 9) (N := some 147) (w_ 11 1023) rfl rfl (one_of HT_.out (by kernel_rfl)) (by decide) (fun K hK => ?_)
                              refine goes_ Try.func24 (by kernel_rfl) rfl #[.int .i64 a0, .int .i64 (rd l4 t628), .int .i64 (rd l4 (rd t625 x133_5))] (by rfl) rfl rfl (by (try simp only [List.map_toArray, List.map_cons, List.map_nil]); first | done | rfl | (simp only [List.length_drop, List.length_take]; rfl)) ?_
                              with_reducible refine (cohousingref29_Right.calls k5 a0 (rd l4 t628) (rd l4 (rd t625 x133_5)) t633 _ A59.out).mono ?_
                              rintro e w79 ⟨rfl, hb⟩
                              refine ⟨_, rfl, ?_⟩
                              have n0_ := Aside0.mk (Kd.R_below (rr_ HO_12) hb)
                              have n1_ := Aside0.mk (Kd.R_below (rr_ HO_20) hb)
                              have n2_ := Aside0.mk (Kd.R_below (rr_ HO_131) hb)
                              have n3_ := Aside0.mk (below_step (bb_ HB) hb)
                              clear HO_12
                              clear HO_20
                              clear HO_131
                              clear HB
                              have HO_12 := n0_
                              have HO_20 := n1_
                              have HO_131 := n2_
                              have HB := n3_
                              clear n0_ n1_ n2_ n3_
                              (try clear hb)
                              (try clear hb2)
                              (try clear hk)
                              (try clear hi)
                              refine hK.out _ _ ⟨((HB.out.cell (World.block_lt_of_cell? w _ hw631_0)).trans hw631_0), ((HB.out.cell (World.block_lt_of_cell? w _ hw632_0)).trans hw632_0)⟩ (fun hHeld => ?_)
                              clear hK K
                              refine norm_ (a' := ?_) ?_ ?_
                              rotate_left
                              ·show Act.put _ (some 147) _ = _
                               simp only [Act.put, sI_, s0_, sS_, i64_w, i32_w]
                               rfl
                              refine pu_ 10 28 (w_ 11 2047) rfl HT_ ?_
                              refine done_ (done_of HT_.out (by kernel_rfl)) ?_
                              obtain ⟨Ao80, co80, eo80⟩ := Kd.R_slice HO_20.out
                              subst eo80
                              have p634 : 0 ≤ (x133_5 : Int) := od_
                              have q634 : x133_5 < (t620.length : Int) := od_
                              obtain ⟨ad634, e634, hx634_0, hx634_1, hx634_2, hx634_3, hx634_4⟩ := at_T40 (Kd.R_reads' HO_20.out).2.2 x133_5 p634 q634
                              (try rw [← Nbq62.out] at hx634_4)
                              cases e634
                              replace p634 := eq_true p634
                              replace q634 := eq_true q634
                              have p635 : 0 ≤ (x133_5 : Int) := od_
                              have q635 : x133_5 < (t620.length : Int) := od_
                              obtain ⟨ad635, e635, hx635_0, hx635_1, hx635_2, hx635_3, hx635_4⟩ := at_T40 (Kd.R_reads' HO_20.out).2.2 x133_5 p635 q635
                              (try rw [← Nbq62.out] at hx635_4)
                              obtain rfl : ad634 = ad635 := (by injection e635)
                              replace p635 := eq_true p635
                              replace q635 := eq_true q635
                              obtain ⟨Ao81, co81, eo81⟩ := Kd.R_slice HO_12.out
                              subst eo81
                              have p636 : 0 ≤ (x133_5 : Int) := od_
                              have q636 : x133_5 < (t609.length : Int) := od_
                              obtain ⟨ad636, e636, hx636_0, hx636_1, hx636_2, hx636_3, hx636_4⟩ := at_T40 (Kd.R_reads' HO_12.out).2.2 x133_5 p636 q636
                              (try rw [← Nbq62.out] at hx636_4)
                              cases e636
                              replace p636 := eq_true p636
                              replace q636 := eq_true q636
                              have p637 : 0 ≤ (x133_5 : Int) := od_
                              have q637 : x133_5 < (t609.length : Int) := od_
                              obtain ⟨ad637, e637, hx637_0, hx637_1, hx637_2, hx637_3, hx637_4⟩ := at_T40 (Kd.R_reads' HO_12.out).2.2 x133_5 p637 q637
                              (try rw [← Nbq62.out] at hx637_4)
                              obtain rfl : ad636 = ad637 := (by injection e637)
                              replace p637 := eq_true p637
                              replace q637 := eq_true q637
                              try go_wp2
                              go_roundg k5
                              case measure => have := HJ6.out; have := HJ14.out; have := HK3.out; have := HJ28.out; have := HK5.out; omega
                              case rel => exact ⟨(false), (wrap64 (x25_5 + t633)), (wrap64 (x133_5 + 1)), sd_, sd_, sd_, H', ⟨by have := HJ6.out; have := HJ14.out; have := HK3.out; have := HJ28.out; have := HK5.out; omega⟩, ⟨by (with_reducible repeat (first | apply Kd.R_alloc | apply Kd.R_drewN | apply Kd.R_drew)); exact HO_12.out⟩, ⟨by (with_reducible repeat (first | apply Kd.R_alloc | apply Kd.R_drewN | apply Kd.R_drew)); exact HO_20.out⟩, ⟨by (with_reducible repeat (first | apply Kd.R_alloc | apply Kd.R_drewN | apply Kd.R_drew)); exact HO_131.out⟩, ⟨by repeat (first | (with_reducible first | exact HB.out | apply below_alloc | apply pw_below_drewN | apply below_drew1) | exact HB.out)⟩⟩
                           ·as_aux_lemma =>
                             rw [if_neg c66] at H
                             have c66b0 : decide (((rd_T40 t609 x133_5).f2.f0) ≤ t633) = false := decide_eq_false c66
                             clear c66
                             have H' := Aside0.mk H
                             clear H
                             have p630 : 0 ≤ (x133_5 : Int) := od_
                             have q630 : x133_5 < (t625.length : Int) := od_
                             obtain ⟨ad630, e630, hx630_0⟩ := Kd.at_int (Kd.R_reads' HO_131.out).2.2 x133_5 p630 q630
                             cases e630
                             replace p630 := eq_true p630
                             replace q630 := eq_true q630
                             try go_wp2
                             have n0_ := Aside0.mk (Kd.R_drew HO_12.out)
                             have n1_ := Aside0.mk (Kd.R_drew HO_20.out)
                             have n2_ := Aside0.mk (Kd.R_drew HO_131.out)
                             have n3_ := Aside0.mk (below_drew1 HB.out)
                             clear HO_12
                             clear HO_20
                             clear HO_131
                             clear HB
                             have HO_12 := n0_
                             have HO_20 := n1_
                             have HO_131 := n2_
                             have HB := n3_
                             clear n0_ n1_ n2_ n3_
                             have p631 : 0 ≤ (t628 : Int) := od_
                             have q631 : t628 < (l4.length : Int) := od_
                             obtain ⟨ad631, e631, hx631_0⟩ := Kd.at_int HR4.out t628 p631 q631
                             have hw631_0 := hx631_0
                             cases e631
                             replace hx631_0 := (HB.out.cell (World.block_lt_of_cell? w _ hx631_0)).trans hx631_0
                             replace p631 := eq_true p631
                             replace q631 := eq_true q631
                             have p632 : 0 ≤ ((rd t625 x133_5) : Int) := od_
                             have q632 : (rd t625 x133_5) < (l4.length : Int) := od_
                             obtain ⟨ad632, e632, hx632_0⟩ := Kd.at_int HR4.out (rd t625 x133_5) p632 q632
                             have hw632_0 := hx632_0
                             obtain rfl : ad631 = ad632 := (by injection e632)
                             replace hx632_0 := (HB.out.cell (World.block_lt_of_cell? w _ hx632_0)).trans hx632_0
                             replace p632 := eq_true p632
                             replace q632 := eq_true q632
                             refine start_ (n := 11) (S := fun w' => w'.cell? (ad631.add (t628).toNat) = some (.int .i64 (rd l4 t628)) ∧ w'.cell? (ad631.add ((rd t625 x133_5)).toNat) = some (.int .i64 (rd l4 (rd t625 x133_5)))) (ds := []) #[n_, n_, n_, n_, n_, n_, n_, n_, n_, n_, n_] (by kernel_rfl) rfl rfl ⟨((HB.out.cell (World.block_lt_of_cell? w _ hw631_0)).trans hw631_0), ((HB.out.cell (World.block_lt_of_cell? w _ hw632_0)).trans hw632_0)⟩ (fun hHeld => ?_); refine with_tabW cohousingtop_TopTruth.tab22 cohousingtop_TopTruth.bits22 (fun HT_ HW_ => ?_)
                             generalize wr.drew = w82 at HO_12 HO_20 HO_131 HB hx631_0 hx632_0 hHeld ⊢
                             refine pu_ 0 138 (w_ 11 1) rfl HT_ ?_
                             refine pu_ 1 139 (w_ 11 3) rfl HT_ ?_
                             refine pu_ 2 140 (w_ 11 7) rfl HT_ ?_
                             refine pu_ 3 141 (w_ 11 15) rfl HT_ ?_
                             refine pu_ 5 143 (w_ 11 47) rfl HT_ ?_
                             refine pu_ 6 144 (w_ 11 111) rfl HT_ ?_
                             refine pu_ 7 145 (w_ 11 239) rfl HT_ ?_
                             refine ta_ 4 142 (w_ 11 255) rfl HT_ HW_ hHeld (by rintro w' ⟨s0, s1⟩; go_simp; with_reducible rfl) ?_
                             refine ta_ 8 146 (w_ 11 511) rfl HT_ HW_ hHeld (by rintro w' ⟨s0, s1⟩; go_simp; with_reducible rfl) ?_
                             refine one_ (i := 9) (N := some 147) (w_ 11 1023) rfl rfl (one_of HT_.out (by kernel_rfl)) (by decide) (fun K hK => ?_)
                             refine goes_ Try.func24 (by kernel_rfl) rfl #[.int .i64 a0, .int .i64 (rd l4 t628), .int .i64 (rd l4 (rd t625 x133_5))] (by rfl) rfl rfl (by (try simp only [List.map_toArray, List.map_cons, List.map_nil]); first | done | rfl | (simp only [List.length_drop, List.length_take]; rfl)) ?_
                             with_reducible refine (cohousingref29_Right.calls k5 a0 (rd l4 t628) (rd l4 (rd t625 x133_5)) t633 _ A59.out).mono ?_
                             rintro e w83 ⟨rfl, hb⟩
                             refine ⟨_, rfl, ?_⟩
                             have n0_ := Aside0.mk (Kd.R_below (rr_ HO_12) hb)
                             have n1_ := Aside0.mk (Kd.R_below (rr_ HO_20) hb)
                             have n2_ := Aside0.mk (Kd.R_below (rr_ HO_131) hb)
                             have n3_ := Aside0.mk (below_step (bb_ HB) hb)
                             clear HO_12
                             clear HO_20
                             clear HO_131
                             clear HB
                             have HO_12 := n0_
                             have HO_20 := n1_
                             have HO_131 := n2_
                             have HB := n3_
                             clear n0_ n1_ n2_ n3_
                             (try clear hb)
                             (try clear hb2)
                             (try clear hk)
                             (try clear hi)
                             refine hK.out _ _ ⟨((HB.out.cell (World.block_lt_of_cell? w _ hw631_0)).trans hw631_0), ((HB.out.cell (World.block_lt_of_cell? w _ hw632_0)).trans hw632_0)⟩ (fun hHeld => ?_)
                             clear hK K
                             refine norm_ (a' := ?_) ?_ ?_
                             rotate_left
                             ·show Act.put _ (some 147) _ = _
                              simp only [Act.put, sI_, s0_, sS_, i64_w, i32_w]
                              rfl
                             refine pu_ 10 28 (w_ 11 2047) rfl HT_ ?_
                             refine done_ (done_of HT_.out (by kernel_rfl)) ?_
                             obtain ⟨Ao84, co84, eo84⟩ := Kd.R_slice HO_20.out
                             subst eo84
                             have p634 : 0 ≤ (x133_5 : Int) := od_
                             have q634 : x133_5 < (t620.length : Int) := od_
                             obtain ⟨ad634, e634, hx634_0, hx634_1, hx634_2, hx634_3, hx634_4⟩ := at_T40 (Kd.R_reads' HO_20.out).2.2 x133_5 p634 q634
                             (try rw [← Nbq62.out] at hx634_4)
                             cases e634
                             replace p634 := eq_true p634
                             replace q634 := eq_true q634
                             have p635 : 0 ≤ (x133_5 : Int) := od_
                             have q635 : x133_5 < (t620.length : Int) := od_
                             obtain ⟨ad635, e635, hx635_0, hx635_1, hx635_2, hx635_3, hx635_4⟩ := at_T40 (Kd.R_reads' HO_20.out).2.2 x133_5 p635 q635
                             (try rw [← Nbq62.out] at hx635_4)
                             obtain rfl : ad634 = ad635 := (by injection e635)
                             replace p635 := eq_true p635
                             replace q635 := eq_true q635
                             obtain ⟨Ao85, co85, eo85⟩ := Kd.R_slice HO_12.out
                             subst eo85
                             have p636 : 0 ≤ (x133_5 : Int) := od_
                             have q636 : x133_5 < (t609.length : Int) := od_
                             obtain ⟨ad636, e636, hx636_0, hx636_1, hx636_2, hx636_3, hx636_4⟩ := at_T40 (Kd.R_reads' HO_12.out).2.2 x133_5 p636 q636
                             (try rw [← Nbq62.out] at hx636_4)
                             cases e636
                             replace p636 := eq_true p636
                             replace q636 := eq_true q636
                             try go_wp2
                             go_roundg k5
                             case measure => have := HJ6.out; have := HJ14.out; have := HK3.out; have := HJ28.out; have := HK5.out; omega
                             case rel => exact ⟨(false), (wrap64 (x25_5 + t633)), (wrap64 (x133_5 + 1)), sd_, sd_, sd_, H', ⟨by have := HJ6.out; have := HJ14.out; have := HK3.out; have := HJ28.out; have := HK5.out; omega⟩, ⟨by (with_reducible repeat (first | apply Kd.R_alloc | apply Kd.R_drewN | apply Kd.R_drew)); exact HO_12.out⟩, ⟨by (with_reducible repeat (first | apply Kd.R_alloc | apply Kd.R_drewN | apply Kd.R_drew)); exact HO_20.out⟩, ⟨by (with_reducible repeat (first | apply Kd.R_alloc | apply Kd.R_drewN | apply Kd.R_drew)); exact HO_131.out⟩, ⟨by repeat (first | (with_reducible first | exact HB.out | apply below_alloc | apply pw_below_drewN | apply below_drew1) | exact HB.out)⟩⟩
                          ·rw [if_neg c65] at H
                           exact absurd H (by simp)
                         ·as_aux_lemma =>
                           rw [if_neg c64] at H
                           have c64b0 : (((rd_T40 t620 x133_5).f1) == t633) = false := beq_eq_false_iff_ne.mpr c64
                           have c64b1 : (((rd_T40 t620 x133_5).f1) != t633) = true := bne_iff_ne.mpr c64
                           have H' := Aside0.mk H
                           clear H
                           have p630 : 0 ≤ (x133_5 : Int) := od_
                           have q630 : x133_5 < (t625.length : Int) := od_
                           obtain ⟨ad630, e630, hx630_0⟩ := Kd.at_int (Kd.R_reads' HO_131.out).2.2 x133_5 p630 q630
                           cases e630
                           replace p630 := eq_true p630
                           replace q630 := eq_true q630
                           try go_wp2
                           have n0_ := Aside0.mk (Kd.R_drew HO_12.out)
                           have n1_ := Aside0.mk (Kd.R_drew HO_20.out)
                           have n2_ := Aside0.mk (Kd.R_drew HO_131.out)
                           have n3_ := Aside0.mk (below_drew1 HB.out)
                           clear HO_12
                           clear HO_20
                           clear HO_131
                           clear HB
                           have HO_12 := n0_
                           have HO_20 := n1_
                           have HO_131 := n2_
                           have HB := n3_
                           clear n0_ n1_ n2_ n3_
                           have p631 : 0 ≤ (t628 : Int) := od_
                           have q631 : t628 < (l4.length : Int) := od_
                           obtain ⟨ad631, e631, hx631_0⟩ := Kd.at_int HR4.out t628 p631 q631
                           have hw631_0 := hx631_0
                           cases e631
                           replace hx631_0 := (HB.out.cell (World.block_lt_of_cell? w _ hx631_0)).trans hx631_0
                           replace p631 := eq_true p631
                           replace q631 := eq_true q631
                           have p632 : 0 ≤ ((rd t625 x133_5) : Int) := od_
                           have q632 : (rd t625 x133_5) < (l4.length : Int) := od_
                           obtain ⟨ad632, e632, hx632_0⟩ := Kd.at_int HR4.out (rd t625 x133_5) p632 q632
                           have hw632_0 := hx632_0
                           obtain rfl : ad631 = ad632 := (by injection e632)
                           replace hx632_0 := (HB.out.cell (World.block_lt_of_cell? w _ hx632_0)).trans hx632_0
                           replace p632 := eq_true p632
                           replace q632 := eq_true q632
                           refine start_ (n := 11) (S := fun w' => w'.cell? (ad631.add (t628).toNat) = some (.int .i64 (rd l4 t628)) ∧ w'.cell? (ad631.add ((rd t625 x133_5)).toNat) = some (.int .i64 (rd l4 (rd t625 x133_5)))) (ds := []) #[n_, n_, n_, n_, n_, n_, n_, n_, n_, n_, n_] (by kernel_rfl) rfl rfl ⟨((HB.out.cell (World.block_lt_of_cell? w _ hw631_0)).trans hw631_0), ((HB.out.cell (World.block_lt_of_cell? w _ hw632_0)).trans hw632_0)⟩ (fun hHeld => ?_); refine with_tabW cohousingtop_TopTruth.tab22 cohousingtop_TopTruth.bits22 (fun HT_ HW_ => ?_)
                           generalize wr.drew = w86 at HO_12 HO_20 HO_131 HB hx631_0 hx632_0 hHeld ⊢
                           refine pu_ 0 138 (w_ 11 1) rfl HT_ ?_
                           refine pu_ 1 139 (w_ 11 3) rfl HT_ ?_
                           refine pu_ 2 140 (w_ 11 7) rfl HT_ ?_
                           refine pu_ 3 141 (w_ 11 15) rfl HT_ ?_
                           refine pu_ 5 143 (w_ 11 47) rfl HT_ ?_
                           refine pu_ 6 144 (w_ 11 111) rfl HT_ ?_
                           refine pu_ 7 145 (w_ 11 239) rfl HT_ ?_
                           refine ta_ 4 142 (w_ 11 255) rfl HT_ HW_ hHeld (by rintro w' ⟨s0, s1⟩; go_simp; with_reducible rfl) ?_
                           refine ta_ 8 146 (w_ 11 511) rfl HT_ HW_ hHeld (by rintro w' ⟨s0, s1⟩; go_simp; with_reducible rfl) ?_
                           refine one_ (i := 9) (N := some 147) (w_ 11 1023) rfl rfl (one_of HT_.out (by kernel_rfl)) (by decide) (fun K hK => ?_)
                           refine goes_ Try.func24 (by kernel_rfl) rfl #[.int .i64 a0, .int .i64 (rd l4 t628), .int .i64 (rd l4 (rd t625 x133_5))] (by rfl) rfl rfl (by (try simp only [List.map_toArray, List.map_cons, List.map_nil]); first | done | rfl | (simp only [List.length_drop, List.length_take]; rfl)) ?_
                           with_reducible refine (cohousingref29_Right.calls k5 a0 (rd l4 t628) (rd l4 (rd t625 x133_5)) t633 _ A59.out).mono ?_
                           rintro e w87 ⟨rfl, hb⟩
                           refine ⟨_, rfl, ?_⟩
                           have n0_ := Aside0.mk (Kd.R_below (rr_ HO_12) hb)
                           have n1_ := Aside0.mk (Kd.R_below (rr_ HO_20) hb)
                           have n2_ := Aside0.mk (Kd.R_below (rr_ HO_131) hb)
                           have n3_ := Aside0.mk (below_step (bb_ HB) hb)
                           clear HO_12
                           clear HO_20
                           clear HO_131
                           clear HB
                           have HO_12 := n0_
                           have HO_20 := n1_
                           have HO_131 := n2_
                           have HB := n3_
                           clear n0_ n1_ n2_ n3_
                           (try clear hb)
                           (try clear hb2)
                           (try clear hk)
                           (try clear hi)
                           refine hK.out _ _ ⟨((HB.out.cell (World.block_lt_of_cell? w _ hw631_0)).trans hw631_0), ((HB.out.cell (World.block_lt_of_cell? w _ hw632_0)).trans hw632_0)⟩ (fun hHeld => ?_)
                           clear hK K
                           refine norm_ (a' := ?_) ?_ ?_
                           rotate_left
                           ·show Act.put _ (some 147) _ = _
                            simp only [Act.put, sI_, s0_, sS_, i64_w, i32_w]
                            rfl
                           refine pu_ 10 28 (w_ 11 2047) rfl HT_ ?_
                           refine done_ (done_of HT_.out (by kernel_rfl)) ?_
                           obtain ⟨Ao88, co88, eo88⟩ := Kd.R_slice HO_20.out
                           subst eo88
                           have p634 : 0 ≤ (x133_5 : Int) := od_
                           have q634 : x133_5 < (t620.length : Int) := od_
                           obtain ⟨ad634, e634, hx634_0, hx634_1, hx634_2, hx634_3, hx634_4⟩ := at_T40 (Kd.R_reads' HO_20.out).2.2 x133_5 p634 q634
                           (try rw [← Nbq62.out] at hx634_4)
                           cases e634
                           replace p634 := eq_true p634
                           replace q634 := eq_true q634
                           have p635 : 0 ≤ (x133_5 : Int) := od_
                           have q635 : x133_5 < (t620.length : Int) := od_
                           obtain ⟨ad635, e635, hx635_0, hx635_1, hx635_2, hx635_3, hx635_4⟩ := at_T40 (Kd.R_reads' HO_20.out).2.2 x133_5 p635 q635
                           (try rw [← Nbq62.out] at hx635_4)
                           obtain rfl : ad634 = ad635 := (by injection e635)
                           replace p635 := eq_true p635
                           replace q635 := eq_true q635
                           try go_wp2
                           go_roundg k5
                           case measure => have := HJ6.out; have := HJ14.out; have := HK3.out; have := HJ28.out; have := HK5.out; omega
                           case rel => exact ⟨(false), (wrap64 (x25_5 + t633)), (wrap64 (x133_5 + 1)), sd_, sd_, sd_, H', ⟨by have := HJ6.out; have := HJ14.out; have := HK3.out; have := HJ28.out; have := HK5.out; omega⟩, ⟨by (with_reducible repeat (first | apply Kd.R_alloc | apply Kd.R_drewN | apply Kd.R_drew)); exact HO_12.out⟩, ⟨by (with_reducible repeat (first | apply Kd.R_alloc | apply Kd.R_drewN | apply Kd.R_drew)); exact HO_20.out⟩, ⟨by (with_reducible repeat (first | apply Kd.R_alloc | apply Kd.R_drewN | apply Kd.R_drew)); exact HO_131.out⟩, ⟨by repeat (first | (with_reducible first | exact HB.out | apply below_alloc | apply pw_below_drewN | apply below_drew1) | exact HB.out)⟩⟩
                        ·as_aux_lemma =>
                          replace c63 := Bool.eq_false_iff.mpr c63
                          subst c63
                          have H1 : (cohousingtop_TopTruth.l1 k5 a0 l4 false t609 t620 t628 (wrap64 (x25_5 + t633)) t625 (t625.length : Int) (wrap64 (x133_5 + 1))) = some true := by rw [if_neg (show ¬ (false = true) by decide)] at H; exact H
                          clear H
                          have H := H1
                          clear H1
                          have H' := Aside0.mk H
                          clear H
                          have p630 : 0 ≤ (x133_5 : Int) := od_
                          have q630 : x133_5 < (t625.length : Int) := od_
                          obtain ⟨ad630, e630, hx630_0⟩ := Kd.at_int (Kd.R_reads' HO_131.out).2.2 x133_5 p630 q630
                          cases e630
                          replace p630 := eq_true p630
                          replace q630 := eq_true q630
                          try go_wp2
                          have n0_ := Aside0.mk (Kd.R_drew HO_12.out)
                          have n1_ := Aside0.mk (Kd.R_drew HO_20.out)
                          have n2_ := Aside0.mk (Kd.R_drew HO_131.out)
                          have n3_ := Aside0.mk (below_drew1 HB.out)
                          clear HO_12
                          clear HO_20
                          clear HO_131
                          clear HB
                          have HO_12 := n0_
                          have HO_20 := n1_
                          have HO_131 := n2_
                          have HB := n3_
                          clear n0_ n1_ n2_ n3_
                          have p631 : 0 ≤ (t628 : Int) := od_
                          have q631 : t628 < (l4.length : Int) := od_
                          obtain ⟨ad631, e631, hx631_0⟩ := Kd.at_int HR4.out t628 p631 q631
                          have hw631_0 := hx631_0
                          cases e631
                          replace hx631_0 := (HB.out.cell (World.block_lt_of_cell? w _ hx631_0)).trans hx631_0
                          replace p631 := eq_true p631
                          replace q631 := eq_true q631
                          have p632 : 0 ≤ ((rd t625 x133_5) : Int) := od_
                          have q632 : (rd t625 x133_5) < (l4.length : Int) := od_
                          obtain ⟨ad632, e632, hx632_0⟩ := Kd.at_int HR4.out (rd t625 x133_5) p632 q632
                          have hw632_0 := hx632_0
                          obtain rfl : ad631 = ad632 := (by injection e632)
                          replace hx632_0 := (HB.out.cell (World.block_lt_of_cell? w _ hx632_0)).trans hx632_0
                          replace p632 := eq_true p632
                          replace q632 := eq_true q632
                          refine start_ (n := 11) (S := fun w' => w'.cell? (ad631.add (t628).toNat) = some (.int .i64 (rd l4 t628)) ∧ w'.cell? (ad631.add ((rd t625 x133_5)).toNat) = some (.int .i64 (rd l4 (rd t625 x133_5)))) (ds := []) #[n_, n_, n_, n_, n_, n_, n_, n_, n_, n_, n_] (by kernel_rfl) rfl rfl ⟨((HB.out.cell (World.block_lt_of_cell? w _ hw631_0)).trans hw631_0), ((HB.out.cell (World.block_lt_of_cell? w _ hw632_0)).trans hw632_0)⟩ (fun hHeld => ?_); refine with_tabW cohousingtop_TopTruth.tab22 cohousingtop_TopTruth.bits22 (fun HT_ HW_ => ?_)
                          generalize wr.drew = w89 at HO_12 HO_20 HO_131 HB hx631_0 hx632_0 hHeld ⊢
                          refine pu_ 0 138 (w_ 11 1) rfl HT_ ?_
                          refine pu_ 1 139 (w_ 11 3) rfl HT_ ?_
                          refine pu_ 2 140 (w_ 11 7) rfl HT_ ?_
                          refine pu_ 3 141 (w_ 11 15) rfl HT_ ?_
                          refine pu_ 5 143 (w_ 11 47) rfl HT_ ?_
                          refine pu_ 6 144 (w_ 11 111) rfl HT_ ?_
                          refine pu_ 7 145 (w_ 11 239) rfl HT_ ?_
                          refine ta_ 4 142 (w_ 11 255) rfl HT_ HW_ hHeld (by rintro w' ⟨s0, s1⟩; go_simp; with_reducible rfl) ?_
                          refine ta_ 8 146 (w_ 11 511) rfl HT_ HW_ hHeld (by rintro w' ⟨s0, s1⟩; go_simp; with_reducible rfl) ?_
                          refine one_ (i := 9) (N := some 147) (w_ 11 1023) rfl rfl (one_of HT_.out (by kernel_rfl)) (by decide) (fun K hK => ?_)
                          refine goes_ Try.func24 (by kernel_rfl) rfl #[.int .i64 a0, .int .i64 (rd l4 t628), .int .i64 (rd l4 (rd t625 x133_5))] (by rfl) rfl rfl (by (try simp only [List.map_toArray, List.map_cons, List.map_nil]); first | done | rfl | (simp only [List.length_drop, List.length_take]; rfl)) ?_
                          with_reducible refine (cohousingref29_Right.calls k5 a0 (rd l4 t628) (rd l4 (rd t625 x133_5)) t633 _ A59.out).mono ?_
                          rintro e w90 ⟨rfl, hb⟩
                          refine ⟨_, rfl, ?_⟩
                          have n0_ := Aside0.mk (Kd.R_below (rr_ HO_12) hb)
                          have n1_ := Aside0.mk (Kd.R_below (rr_ HO_20) hb)
                          have n2_ := Aside0.mk (Kd.R_below (rr_ HO_131) hb)
                          have n3_ := Aside0.mk (below_step (bb_ HB) hb)
                          clear HO_12
                          clear HO_20
                          clear HO_131
                          clear HB
                          have HO_12 := n0_
                          have HO_20 := n1_
                          have HO_131 := n2_
                          have HB := n3_
                          clear n0_ n1_ n2_ n3_
                          (try clear hb)
                          (try clear hb2)
                          (try clear hk)
                          (try clear hi)
                          refine hK.out _ _ ⟨((HB.out.cell (World.block_lt_of_cell? w _ hw631_0)).trans hw631_0), ((HB.out.cell (World.block_lt_of_cell? w _ hw632_0)).trans hw632_0)⟩ (fun hHeld => ?_)
                          clear hK K
                          refine norm_ (a' := ?_) ?_ ?_
                          rotate_left
                          ·show Act.put _ (some 147) _ = _
                           simp only [Act.put, sI_, s0_, sS_, i64_w, i32_w]
                           rfl
                          refine pu_ 10 28 (w_ 11 2047) rfl HT_ ?_
                          refine done_ (done_of HT_.out (by kernel_rfl)) ?_
                          obtain ⟨Ao91, co91, eo91⟩ := Kd.R_slice HO_20.out
                          subst eo91
                          have p634 : 0 ≤ (x133_5 : Int) := od_
                          have q634 : x133_5 < (t620.length : Int) := od_
                          obtain ⟨ad634, e634, hx634_0, hx634_1, hx634_2, hx634_3, hx634_4⟩ := at_T40 (Kd.R_reads' HO_20.out).2.2 x133_5 p634 q634
                          (try rw [← Nbq62.out] at hx634_4)
                          cases e634
                          replace p634 := eq_true p634
                          replace q634 := eq_true q634
                          try go_wp2
                          go_roundg k5
                          case measure => have := HJ6.out; have := HJ14.out; have := HK3.out; have := HJ28.out; have := HK5.out; omega
                          case rel => exact ⟨(false), (wrap64 (x25_5 + t633)), (wrap64 (x133_5 + 1)), sd_, sd_, sd_, H', ⟨by have := HJ6.out; have := HJ14.out; have := HK3.out; have := HJ28.out; have := HK5.out; omega⟩, ⟨by (with_reducible repeat (first | apply Kd.R_alloc | apply Kd.R_drewN | apply Kd.R_drew)); exact HO_12.out⟩, ⟨by (with_reducible repeat (first | apply Kd.R_alloc | apply Kd.R_drewN | apply Kd.R_drew)); exact HO_20.out⟩, ⟨by (with_reducible repeat (first | apply Kd.R_alloc | apply Kd.R_drewN | apply Kd.R_drew)); exact HO_131.out⟩, ⟨by repeat (first | (with_reducible first | exact HB.out | apply below_alloc | apply pw_below_drewN | apply below_drew1) | exact HB.out)⟩⟩
                       ·rw [if_neg c61] at H
                        exact absurd H (by simp)
                      ·as_aux_lemma =>
                        replace c60 := Bool.eq_false_iff.mpr c60
                        subst c60
                        have H1 : (cohousingtop_TopTruth.l1 k5 a0 l4 false t609 t620 t628 (wrap64 (x25_5 + t633)) t625 (t625.length : Int) (wrap64 (x133_5 + 1))) = some true := by rw [if_neg (show ¬ (false = true) by decide)] at H; exact H
                        clear H
                        have H := H1
                        clear H1
                        have H' := Aside0.mk H
                        clear H
                        have p630 : 0 ≤ (x133_5 : Int) := od_
                        have q630 : x133_5 < (t625.length : Int) := od_
                        obtain ⟨ad630, e630, hx630_0⟩ := Kd.at_int (Kd.R_reads' HO_131.out).2.2 x133_5 p630 q630
                        cases e630
                        replace p630 := eq_true p630
                        replace q630 := eq_true q630
                        try go_wp2
                        have n0_ := Aside0.mk (Kd.R_drew HO_12.out)
                        have n1_ := Aside0.mk (Kd.R_drew HO_20.out)
                        have n2_ := Aside0.mk (Kd.R_drew HO_131.out)
                        have n3_ := Aside0.mk (below_drew1 HB.out)
                        clear HO_12
                        clear HO_20
                        clear HO_131
                        clear HB
                        have HO_12 := n0_
                        have HO_20 := n1_
                        have HO_131 := n2_
                        have HB := n3_
                        clear n0_ n1_ n2_ n3_
                        have p631 : 0 ≤ (t628 : Int) := od_
                        have q631 : t628 < (l4.length : Int) := od_
                        obtain ⟨ad631, e631, hx631_0⟩ := Kd.at_int HR4.out t628 p631 q631
                        have hw631_0 := hx631_0
                        cases e631
                        replace hx631_0 := (HB.out.cell (World.block_lt_of_cell? w _ hx631_0)).trans hx631_0
                        replace p631 := eq_true p631
                        replace q631 := eq_true q631
                        have p632 : 0 ≤ ((rd t625 x133_5) : Int) := od_
                        have q632 : (rd t625 x133_5) < (l4.length : Int) := od_
                        obtain ⟨ad632, e632, hx632_0⟩ := Kd.at_int HR4.out (rd t625 x133_5) p632 q632
                        have hw632_0 := hx632_0
                        obtain rfl : ad631 = ad632 := (by injection e632)
                        replace hx632_0 := (HB.out.cell (World.block_lt_of_cell? w _ hx632_0)).trans hx632_0
                        replace p632 := eq_true p632
                        replace q632 := eq_true q632
                        refine start_ (n := 11) (S := fun w' => w'.cell? (ad631.add (t628).toNat) = some (.int .i64 (rd l4 t628)) ∧ w'.cell? (ad631.add ((rd t625 x133_5)).toNat) = some (.int .i64 (rd l4 (rd t625 x133_5)))) (ds := []) #[n_, n_, n_, n_, n_, n_, n_, n_, n_, n_, n_] (by kernel_rfl) rfl rfl ⟨((HB.out.cell (World.block_lt_of_cell? w _ hw631_0)).trans hw631_0), ((HB.out.cell (World.block_lt_of_cell? w _ hw632_0)).trans hw632_0)⟩ (fun hHeld => ?_); refine with_tabW cohousingtop_TopTruth.tab22 cohousingtop_TopTruth.bits22 (fun HT_ HW_ => ?_)
                        generalize wr.drew = w92 at HO_12 HO_20 HO_131 HB hx631_0 hx632_0 hHeld ⊢
                        refine pu_ 0 138 (w_ 11 1) rfl HT_ ?_
                        refine pu_ 1 139 (w_ 11 3) rfl HT_ ?_
                        refine pu_ 2 140 (w_ 11 7) rfl HT_ ?_
                        refine pu_ 3 141 (w_ 11 15) rfl HT_ ?_
                        refine pu_ 5 143 (w_ 11 47) rfl HT_ ?_
                        refine pu_ 6 144 (w_ 11 111) rfl HT_ ?_
                        refine pu_ 7 145 (w_ 11 239) rfl HT_ ?_
                        refine ta_ 4 142 (w_ 11 255) rfl HT_ HW_ hHeld (by rintro w' ⟨s0, s1⟩; go_simp; with_reducible rfl) ?_
                        refine ta_ 8 146 (w_ 11 511) rfl HT_ HW_ hHeld (by rintro w' ⟨s0, s1⟩; go_simp; with_reducible rfl) ?_
                        refine one_ (i := 9) (N := some 147) (w_ 11 1023) rfl rfl (one_of HT_.out (by kernel_rfl)) (by decide) (fun K hK => ?_)
                        refine goes_ Try.func24 (by kernel_rfl) rfl #[.int .i64 a0, .int .i64 (rd l4 t628), .int .i64 (rd l4 (rd t625 x133_5))] (by rfl) rfl rfl (by (try simp only [List.map_toArray, List.map_cons, List.map_nil]); first | done | rfl | (simp only [List.length_drop, List.length_take]; rfl)) ?_
                        with_reducible refine (cohousingref29_Right.calls k5 a0 (rd l4 t628) (rd l4 (rd t625 x133_5)) t633 _ A59.out).mono ?_
                        rintro e w93 ⟨rfl, hb⟩
                        refine ⟨_, rfl, ?_⟩
                        have n0_ := Aside0.mk (Kd.R_below (rr_ HO_12) hb)
                        have n1_ := Aside0.mk (Kd.R_below (rr_ HO_20) hb)
                        have n2_ := Aside0.mk (Kd.R_below (rr_ HO_131) hb)
                        have n3_ := Aside0.mk (below_step (bb_ HB) hb)
                        clear HO_12
                        clear HO_20
                        clear HO_131
                        clear HB
                        have HO_12 := n0_
                        have HO_20 := n1_
                        have HO_131 := n2_
                        have HB := n3_
                        clear n0_ n1_ n2_ n3_
                        (try clear hb)
                        (try clear hb2)
                        (try clear hk)
                        (try clear hi)
                        refine hK.out _ _ ⟨((HB.out.cell (World.block_lt_of_cell? w _ hw631_0)).trans hw631_0), ((HB.out.cell (World.block_lt_of_cell? w _ hw632_0)).trans hw632_0)⟩ (fun hHeld => ?_)
                        clear hK K
                        refine norm_ (a' := ?_) ?_ ?_
                        rotate_left
                        ·show Act.put _ (some 147) _ = _
                         simp only [Act.put, sI_, s0_, sS_, i64_w, i32_w]
                         rfl
                        refine pu_ 10 28 (w_ 11 2047) rfl HT_ ?_
                        refine done_ (done_of HT_.out (by kernel_rfl)) ?_
                        try go_wp2
                        go_roundg k5
                        case measure => have := HJ6.out; have := HJ14.out; have := HK3.out; have := HJ28.out; have := HK5.out; omega
                        case rel => exact ⟨(false), (wrap64 (x25_5 + t633)), (wrap64 (x133_5 + 1)), sd_, sd_, sd_, H', ⟨by have := HJ6.out; have := HJ14.out; have := HK3.out; have := HJ28.out; have := HK5.out; omega⟩, ⟨by (with_reducible repeat (first | apply Kd.R_alloc | apply Kd.R_drewN | apply Kd.R_drew)); exact HO_12.out⟩, ⟨by (with_reducible repeat (first | apply Kd.R_alloc | apply Kd.R_drewN | apply Kd.R_drew)); exact HO_20.out⟩, ⟨by (with_reducible repeat (first | apply Kd.R_alloc | apply Kd.R_drewN | apply Kd.R_drew)); exact HO_131.out⟩, ⟨by repeat (first | (with_reducible first | exact HB.out | apply below_alloc | apply pw_below_drewN | apply below_drew1) | exact HB.out)⟩⟩
                     ·rw [if_neg c58] at H
                      exact absurd H (by simp)
                    ·rw [if_neg c57] at H
                     exact absurd H (by simp)
                   ·rw [if_neg c56] at H
                    exact absurd H (by simp)
                  ·rw [if_neg c55] at H
                   exact absurd H (by simp)
                 ·rw [if_neg c54] at H
                  exact absurd H (by simp)
                ·rw [if_neg c53] at H
                 exact absurd H (by simp)
               ·rw [if_neg c52] at H
                have c52b0 : decide (x133_5 < (t625.length : Int)) = false := decide_eq_false c52
                clear c52
                by_cases c94 : x11_5 = true
                ·subst c94
                 have H1 : (some (x25_5 == a0)) = some true := by rw [if_pos rfl] at H; exact H
                 clear H
                 have H := H1
                 clear H1
                 have hfin_ := Option.some.inj H
                 go_wp2
                 go_ret
                 exact ⟨ew_, by repeat (first | (with_reducible first | exact HB.out | apply below_alloc | apply pw_below_drewN | apply below_drew1) | exact HB.out)⟩
                ·replace c94 := Bool.eq_false_iff.mpr c94
                 subst c94
                 have H1 : (some false) = some true := by rw [if_neg (show ¬ (false = true) by decide)] at H; exact H
                 clear H
                 have H := H1
                 clear H1
                 exact absurd (Option.some.inj H) (by decide)
end
end Go.Proofs.Ythjjabcbngffoaa.P
end
section
namespace Go.Proofs.Ythjjabcbngffoaa.P
open Go.RowKit Go.Proofs.YthjjabcbngffoaaW.PrintWords Go.Proofs.YthjjabcbngffoaaW.PrintLast Go.Proofs.YthjjabcbngffoaaW.PrintMore Go.Proofs.YthjjabcbngffoaaH Go.Proofs.FlowTree
open Classical
def exactN (x : List Int) (i : Nat) : List RG := (List.range i).map (fun j : Nat => (⟨rd x (j : Int), rd x (j : Int)⟩ : RG))
theorem exactN_len (x : List Int) (i : Nat) : (exactN x i).length = i := by unfold exactN; rw [List.length_map, List.length_range]
theorem exactN_succ (x : List Int) (i : Nat) : exactN x i ++ [(⟨rd x (i : Int), rd x (i : Int)⟩ : RG)] = exactN x (i + 1) := by
 unfold exactN
 rw [List.range_succ, List.map_append]
 rfl
theorem exactN_lo (x : List Int) {n j : Nat} (h : j < n) : lo9 (exactN x n) j = fx x j ∧ hi9 (exactN x n) j = fx x j := by
 have e : rr (exactN x n) j = ⟨rd x (j : Int), rd x (j : Int)⟩ := rx_rng _ _ _ h
 exact ⟨congrArg (·.f0) e, congrArg (·.f1) e⟩
section
variable {c : Int} {l : List PI} {known : List RG} {homes : List Int} {q : List CH × Int × Int} {d : List IV} {m : Nat} {p : List CH × Int}
theorem wrap_step {c p s v : Int} {n : Nat} (hc0 : 0 ≤ c) (hc : c ≤ 1000000000) (hp : 0 ≤ p ∧ p ≤ 200000000000) (hs : 0 * (n : Int) ≤ s ∧ s ≤ 1000000000 * n) (hn : n ≤ 200) (hv : 0 ≤ v ∧ v ≤ c) : wrap64 (c - p + s + v) = c - p + (s + v) := by
 rw [wrap_id' (by omega) (by omega)]
 omega
theorem truth_l1 (h : NetOk c l known homes q d m p) (h20 : l.length ≤ 20) {x : List Int} (hxl : x.length = l.length) (hx : Sol (netT l) (lo9 known) (hi9 known) (fx x)) {d' : List IV} (hd' : ∀ j, j < l.length → Lo d' j = fx x j ∧ Hi d' j = fx x j) {p' : List CH × Int}
  (hP' : PartsOk c (Lo d m) (parts l d')) (hlow' : LowAt homes c (Lo d m) (parts l d') (parts l d').length p') : ∀ e i : Nat, i + e = (leavesN l l.length).length →
  Ev (fun k => cohousingtop_TopTruth.l1 k c x true p.1 p'.1 (m : Int) (c - p'.2 + sm (fun j => (cc p'.1 j).f1) (List.range i)) ((leavesN l l.length).map Int.ofNat) ((((leavesN l l.length).map Int.ofNat).length : Int)) (i : Int)) true := by
 have hn := h.good.n
 have hL := leavesN_len l l.length
 have hpl : p.1.length = (leavesN l l.length).length := by rw [h.low.len, List.length_map]
 have hpl' : p'.1.length = (leavesN l l.length).length := by rw [hlow'.len, parts_len]
 have hc := h.parts.2.1
 have hc0 := h.parts.1
 have hbd := hlow'.bd
 intro e
 induction e with
 | zero =>
  intro i hi
  have e0 : i = (leavesN l l.length).length := by omega
  subst e0
  have h1 : ¬ (((leavesN l l.length).length : Int) < (((leavesN l l.length).map Int.ofNat).length : Int)) := by rw [List.length_map]; omega
  have h2 : (c - p'.2 + sm (fun j => (cc p'.1 j).f1) (List.range (leavesN l l.length).length) == c) = true := by
   rw [beq_iff_eq]
   have := hlow'.sum
   rw [parts_len] at this
   omega
  refine Ev.step ?_
  simp only [cohousingtop_TopTruth.l1, h1, if_false, if_true, h2]
  exact Ev.pure _
 | succ e ih =>
  intro i hi
  have hil : i < (leavesN l l.length).length := by omega
  have hps := sm_bound (f := fun j => (cc p'.1 j).f1) (ks := List.range i) (a := 0) (b := 1000000000) (fun j hj => low_vals hP' hlow' j (by rw [hpl']; exact Nat.lt_trans (List.mem_range.1 hj) hil))
  rw [List.length_range] at hps
  have hi200 : i ≤ 200 := by omega
  have hi1 : (i + 1) + e = (leavesN l l.length).length := by omega
  obtain ⟨r1, r2, r3, r4, r5, r6⟩ := right_at h hx hil
  have hlt := lf_lt l hil
  have hm := h.root
  have h1 : ((i : Int) < (((leavesN l l.length).map Int.ofNat).length : Int)) := by rw [List.length_map]; omega
  have h2 : (0 : Int) ≤ (i : Int) := by omega
  have h3 : (0 : Int) ≤ (m : Int) := by omega
  have h4 : ((m : Int) < (x.length : Int)) := by omega
  have h5 : (0 : Int) ≤ (lf l i : Int) := by omega
  have h6 : ((lf l i : Int) < (x.length : Int)) := by omega
  have h7 : ((i : Int) < (p'.1.length : Int)) := by omega
  have h8 : ((i : Int) < (p.1.length : Int)) := by omega
  have hf := h.low.form i (by rw [List.length_map]; exact hil)
  obtain ⟨b1, b2⟩ := parts_b l d c (Lo d m) hil
  have hf' := hlow'.form i (by rw [parts_len]; exact hil)
  obtain ⟨b1', b2'⟩ := parts_b l d' c (Lo d m) hil
  have mo1 := right_mono (c := c) (t := Lo d m) h.parts.1 h.pos r2
  have mo2 := right_mono (c := c) (t := Lo d m) h.parts.1 h.pos r3
  obtain ⟨v, hv⟩ : ∃ v, v = rightV c (Lo d m) (fx x (lf l i)) := ⟨_, rfl⟩
  have e1' : bLo c (Lo d m) (parts l d') i = v := by rw [hv, ← (hd' (lf l i) hlt).1]; exact b1'
  have e2' : bHi c (Lo d m) (parts l d') i = v := by rw [hv, ← (hd' (lf l i) hlt).2]; exact b2'
  have g1 := hf'.ge
  have g2 := hf'.le
  have g3 := hf'.sure
  rw [e1'] at g1
  rw [e2'] at g2
  rw [e1', e2', beq_self_eq_true] at g3
  have bb := b_bd hP' i (by rw [parts_len]; exact hil)
  rw [e1', e2'] at bb
  have q1 : (rd_T40 p.1 (i : Int)).f2.f0 = rightV c (Lo d m) (Lo d (lf l i)) := hf.lo.trans b1
  have q2 : (rd_T40 p.1 (i : Int)).f2.f1 = rightV c (Lo d m) (Hi d (lf l i)) := hf.hi.trans b2
  have q3 : (rd_T40 p.1 (i : Int)).f3 = (rightV c (Lo d m) (Lo d (lf l i)) == rightV c (Lo d m) (Hi d (lf l i))) := by rw [← b1, ← b2]; exact hf.sure
  have q4 := hf.ge
  have q5 := hf.le
  rw [b1] at q4
  rw [b2] at q5
  have e3' : (rd_T40 p'.1 (i : Int)).f3 = true := g3
  have e4' : (rd_T40 p'.1 (i : Int)).f1 = v := by show (cc p'.1 i).f1 = v; omega
  rw [← hv] at r6 mo1 mo2
  have hw := wrap_nat (show i ≤ 140737488355328 from Nat.le_trans hi200 (by decide))
  have w : wrap64 (c - p'.2 + sm (fun j => (cc p'.1 j).f1) (List.range i) + v) = c - p'.2 + sm (fun j => (cc p'.1 j).f1) (List.range (i + 1)) := by
   have e5 : (cc p'.1 i).f1 = v := e4'
   rw [wrap_step hc0 hc hbd hps hi200 ⟨bb.1, bb.2.2⟩, List.range_succ, sm_append, sm_cons, sm_nil, e5, Int.add_zero]
  have hrec := ih (i + 1) hi1
  have x1 : rd x (m : Int) = fx x m := rfl
  have x2 : rd x (lf l i : Int) = fx x (lf l i) := rfl
  refine Ev.step ?_
  simp only [cohousingtop_TopTruth.l1, h1, h2, h3, h4, if_true, lf_rd l hil, h5, h6, x1, x2]
  refine Ev.bnd r6 ?_
  simp only [h7, h8, if_true, e3', e4', q1, q2, mo1, mo2, w, hw]
  by_cases c3 : rightV c (Lo d m) (Lo d (lf l i)) = rightV c (Lo d m) (Hi d (lf l i))
  ·have c4 : (rd_T40 p.1 (i : Int)).f3 = true := by rw [q3]; exact beq_iff_eq.2 c3
   have c5 : ((rd_T40 p.1 (i : Int)).f1 == v) = true := by
    rw [beq_iff_eq]
    show (cc p.1 i).f1 = v
    omega
   simp only [c4, if_true, c5]
   exact hrec
  ·have c4 : (rd_T40 p.1 (i : Int)).f3 = false := by rw [q3]; exact beq_eq_false_iff_ne.2 c3
   simp only [c4, Bool.false_eq_true, if_false]
   exact hrec
theorem truth_l0 (h : NetOk c l known homes q d m p) (hq : (networkC c l known homes).2.2 = 0) (h20 : l.length ≤ 20) {x : List Int} (hxl : x.length = l.length) (hx : Sol (netT l) (lo9 known) (hi9 known) (fx x))
  (hroot : Ev (fun k => cohousingref29_Root.f k l) (m : Int)) : ∀ e i : Nat, i + e = x.length →
  Ev (fun k => cohousingtop_TopTruth.l0 k c l homes x true p.1 (c - p.2) (exactN x i) x (x.length : Int) (i : Int)) true := by
 have hn := h.good.n
 intro e
 induction e with
 | zero =>
  intro i hi
  have e0 : i = x.length := by omega
  subst e0
  have hwi : Within l known (exactN x x.length) := fun j hj => by
   obtain ⟨e1, e2⟩ := exactN_lo x (n := x.length) (j := j) (by omega)
   rw [e1, e2]
   exact hx.1 j hj
  have hsol : Sol (netT l) (lo9 (exactN x x.length)) (hi9 (exactN x x.length)) (fx x) := ⟨fun j hj => by
   have hj' : j < l.length := hj
   obtain ⟨e1, e2⟩ := exactN_lo x (n := x.length) (j := j) (by omega)
   rw [e1, e2]
   exact ⟨Int.le_refl _, Int.le_refl _⟩, hx.2⟩
  have hgood : Good l (exactN x x.length) := ⟨h.good.ok, hn, by rw [exactN_len, hxl], fun j hj => by
   obtain ⟨e1, e2⟩ := exactN_lo x (n := x.length) (j := j) (by omega)
   rw [e1, e2]
   have h1 := hx.1 j hj
   have h2 := h.good.vol j hj
   omega⟩
  obtain ⟨d', b', x'⟩ : ∃ d', boundsR l (exactN x x.length) = (d'.map toR, 0) ∧ Exact l (lo9 (exactN x x.length)) (hi9 (exactN x x.length)) d' := by
   have hb := boundsR_is l (exactN x x.length)
   generalize hq2 : boundsR l (exactN x x.length) = q2 at hb ⊢
   cases hb with
   | arg hno => exact absurd hgood hno
   | flow _ hno => exact absurd ⟨_, hsol⟩ hno
   | ok d' _ hd' => exact ⟨d', rfl, hd'⟩
  have hd' : ∀ j, j < l.length → Lo d' j = fx x j ∧ Hi d' j = fx x j := fun j hj => by
   obtain ⟨e1, e2⟩ := exactN_lo x (n := x.length) (j := j) (by omega)
   have hr := x'.rng j hj
   rw [e1, e2] at hr
   omega
  obtain ⟨p', n', P', L', F', H', hh⟩ := net_second h hq hwi b' x'
  have i' := within_exact hwi h.exact x'
  have hP : PartsOk c (Lo d m) (parts l d) := h.parts
  have hLow : LowAt homes c (Lo d m) (parts l d) (parts l d).length p := h.low
  have hFl : ¬ Lo d m < leastN (parts l d) (parts l d).length := h.flow
  have hH : homes.length = (parts l d).length := by rw [H', parts_len, parts_len]
  have h1 : ¬ ((x.length : Int) < (x.length : Int)) := by omega
  have h2 : ((p'.1.length : Int) = (((leavesN l l.length).map Int.ofNat).length : Int)) := by rw [L'.len, parts_len, List.length_map]
  have h3 : ((p.1.length : Int) = (((leavesN l l.length).map Int.ofNat).length : Int)) := by rw [h.low.len, List.length_map, List.length_map]
  have h4 : ¬ ((m : Int) < 0) := by omega
  refine Ev.step ?_
  simp only [cohousingtop_TopTruth.l0, h1, if_false, gN_f (c := c) (r := exactN x x.length) (h := homes) hn (by rw [exactN_len]; omega), Option.bind_some, n']
  refine Ev.bnd (leaves_ev l hn) ?_
  refine Ev.bnd hroot ?_
  simp only [if_true, h2, h3, h4, if_false]
  refine Ev.bnd (net_settled h20 i' hP P' hLow L' hFl F' hH hh) ?_
  refine Ev.step ?_
  simp only [cohousingtop_TopTruth.j3, Bool.not_true, Bool.false_eq_true, if_false]
  have := truth_l1 h h20 hxl hx hd' P' L' (leavesN l l.length).length 0 (by omega)
  rw [List.range_zero, sm_nil, Int.add_zero] at this
  exact this
 | succ e ih =>
  intro i hi
  have h1 : ((i : Int) < (x.length : Int)) := by omega
  have h2 : (0 : Int) ≤ (i : Int) := by omega
  have h3 : (exactN x i).length < 8796093022208 := by rw [exactN_len]; omega
  refine Ev.step ?_
  simp only [cohousingtop_TopTruth.l0, h1, h2, h3, if_true, exactN_succ, wrap_nat (show i ≤ 140737488355328 by omega)]
  exact ih (i + 1) (by omega)
end
theorem truth_ (c : Int) (l : List PI) (known : List RG) (homes x : List Int) : Ev (fun k => cohousingtop_TopTruth.f k c l known homes x) true := by
 have hout : Ev (fun k => cohousingtop_TopTruth.j0 k c l known homes x true true) true := by
  refine Ev.step ?_
  simp only [cohousingtop_TopTruth.j0, if_true]
  exact Ev.pure _
 have hout1 : ∀ (a : List CH) (h : Int), Ev (fun k => cohousingtop_TopTruth.j1 k c l homes x true a h true) true := fun a h => by
  refine Ev.step ?_
  simp only [cohousingtop_TopTruth.j1, if_true]
  exact Ev.pure _
 unfold cohousingtop_TopTruth.f
 simp only [pipes_f, Option.bind_some]
 by_cases h1 : (l.length : Int) > 20
 ·simp only [h1, if_true]; exact hout
 by_cases h2 : (known.length : Int) > 20
 ·simp only [h1, h2, if_true, if_false]; exact hout
 by_cases h3 : (homes.length : Int) > 20
 ·simp only [h1, h2, h3, if_true, if_false]; exact hout
 by_cases h4 : (x.length : Int) > 20
 ·simp only [h1, h2, h3, if_false, decide_eq_true h4]; exact hout
 simp only [h1, h2, h3, if_false, decide_eq_false h4]
 refine Ev.step ?_
 simp only [cohousingtop_TopTruth.j0, Bool.false_eq_true, if_false, gN_f (c := c) (r := known) (h := homes) (show l.length ≤ 200 by omega) (by omega), gC_f (l := l) (r := known) (x := x) (show l.length ≤ 200 by omega) (by omega) (by omega), Option.bind_some]
 by_cases hz : (networkC c l known homes).2.2 = 0
 case neg => simp only [hz, if_false]; exact hout1 _ _
 obtain ⟨d, m, p, hN⟩ := network_ok hz
 have hres := hN.res
 simp only [hz, if_true]
 rw [consR_is]
 by_cases hg : Good l known ∧ x.length = l.length
 case neg =>
  rw [if_neg hg]
  have e : ((1 : Int) = 0) = False := by simp
  simp only [e, if_false]
  exact hout1 _ _
 rw [if_pos hg]
 simp only [if_true]
 by_cases hs : Sol (netT l) (lo9 known) (hi9 known) (fx x)
 case neg =>
  rw [decide_eq_false hs]
  exact hout1 _ _
 rw [decide_eq_true hs, hres]
 have hn := hN.good.n
 obtain ⟨r, hr, hR⟩ := root_ev l (by omega)
 rcases hR with ⟨hne, _⟩ | ⟨_, m', hm', rfl, _, htot⟩
 ·exact absurd hN.one hne
 have hmm : Lo d m' = Lo d m ∧ Hi d m' = Hi d m := by
  have h1 := (htot (d.map toR)).symm.trans (hN.tot (d.map toR))
  rw [qq_toR, qq_toR] at h1
  have h2 : (toR (rv d m')).f0 = (toR (rv d m)).f0 := by rw [h1]
  have h3 : (toR (rv d m')).f1 = (toR (rv d m)).f1 := by rw [h1]
  exact ⟨h2, h3⟩
 have hN' : NetOk c l known homes (networkC c l known homes) d m' p :=
  ⟨hN.good, hN.bounds, hN.exact, hm', hN.one, htot, by rw [hmm.1, hmm.2]; exact hN.same, by rw [hmm.1]; exact hN.pos, by rw [hmm.1]; exact hN.parts, by rw [hmm.1]; exact hN.low, by rw [hmm.1]; exact hN.flow, hN.res⟩
 refine Ev.step ?_
 simp only [cohousingtop_TopTruth.j1, Bool.not_true, Bool.false_eq_true, if_false]
 exact truth_l0 hN' hz (by omega) hg.2 hs hr x.length 0 (by omega)
end Go.Proofs.Ythjjabcbngffoaa.P
end
