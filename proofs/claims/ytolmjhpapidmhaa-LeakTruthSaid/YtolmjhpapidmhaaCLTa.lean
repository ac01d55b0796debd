/- Part 1 of the proof of LeakTruth: what it alone needs. -/
import Derived.Test.YtolmjhpapidmhaaCBe
set_option linter.unusedVariables false
set_option linter.unusedSimpArgs false
section
namespace Go.Proofs.Ytolmjhpapidmhaa.P
open Go.RowKit Go.Proofs.YtolmjhpapidmhaaW.PrintWords Go.Proofs.YtolmjhpapidmhaaW.PrintLast Go.Proofs.YtolmjhpapidmhaaW.PrintMore
attribute [local go_sem] max2_int min2_int max_two min_two max_three min_three max_four min_four
set_option linter.unusedVariables false
set_option linter.unusedSimpArgs false
set_option maxHeartbeats 8000000
set_option maxRecDepth 100000
section
theorem u8w_ (x : Int) : wrap64 (IntKind.u8.wrap x) = x % 256 := by
 have h : IntKind.u8.wrap x = x % 256 := by simp [IntKind.wrap, IntKind.signed, IntKind.bits]
 rw [h]; unfold wrap64; omega
attribute [local go_sem] u8w_
mutual
def cohousinglaw30_LeakTruth.j0 : Nat → List (S44) → List Bool → List Int → List Int → List Int → Bool → Bool → Option (Bool)
 | 0, _, _, _, _, _, _, _ => none
 | k + 1, x0, x1, x2, x3, x4, x11, x58 => if x58 = true then (some x11) else (if 0 ≤ (x0.length : Int) then (if ((x0.length : Int) : Int).toNat ≤ 35184372088832 then (cohousinglaw30_LeakTruth.l0 k x0 x1 x2 x3 x4 x11 (List.replicate ((x0.length : Int) : Int).toNat 0) 0 (wrap64 ((x0.length : Int) - 1))) else (none)) else (none))
def cohousinglaw30_LeakTruth.l0 : Nat → List (S44) → List Bool → List Int → List Int → List Int → Bool → List Int → Int → Int → Option (Bool)
 | 0, _, _, _, _, _, _, _, _, _ => none
 | k + 1, x0, x1, x2, x3, x4, x11, x12, x13, x14 => if x14 ≥ 0 then ((cohousingref28_Leaf.f k x0 x14).bind fun t507 => (if t507 = true then (if 0 ≤ x14 then (if x14 < (x2.length : Int) then (if x14 < (x12.length : Int) then ((some (x12.set (x14 : Int).toNat (wrap64 (rd x2 x14)) : List Int)).bind fun y509 => (if x14 < (x0.length : Int) then ((cohousingref28_At.f k x0 ((rd_T44 x0 x14).f1)).bind fun t511 => (if t511 ≥ 0 then (if 0 ≤ t511 then (if t511 < (x12.length : Int) then (cohousinglaw30_LeakTruth.l0 k x0 x1 x2 x3 x4 x11 (y509.set (t511 : Int).toNat (wrap64 ((rd y509 t511) + (rd y509 x14)))) x13 (wrap64 (x14 - 1))) else (none)) else (none)) else (cohousinglaw30_LeakTruth.l0 k x0 x1 x2 x3 x4 x11 y509 x13 (wrap64 (x14 - 1))))) else (none))) else (none)) else (none)) else (none)) else (if 0 ≤ x14 then (if x14 < (x1.length : Int) then (if rdOf false x1 x14 = true then (if x14 < (x12.length : Int) then (if x14 < (x3.length : Int) then ((some (x12.set (x14 : Int).toNat (wrap64 ((rd x12 x14) + (wrap64 (rd x3 x14)))) : List Int)).bind fun y518 => (if x14 < (x0.length : Int) then ((cohousingref28_At.f k x0 ((rd_T44 x0 x14).f1)).bind fun t520 => (if t520 ≥ 0 then (if 0 ≤ t520 then (if t520 < (x12.length : Int) then (cohousinglaw30_LeakTruth.l0 k x0 x1 x2 x3 x4 x11 (y518.set (t520 : Int).toNat (wrap64 ((rd y518 t520) + (rd y518 x14)))) (wrap64 (x13 + 1)) (wrap64 (x14 - 1))) else (none)) else (none)) else (cohousinglaw30_LeakTruth.l0 k x0 x1 x2 x3 x4 x11 y518 (wrap64 (x13 + 1)) (wrap64 (x14 - 1))))) else (none))) else (none)) else (none)) else (if x14 < (x12.length : Int) then (if x14 < (x3.length : Int) then (if x14 < (x0.length : Int) then (if (wrap64 (((rd_T44 x0 x14).f2) + 1)) = 0 then (none) else ((some (x12.set (x14 : Int).toNat (wrap64 ((rd x12 x14) + (Int.tmod (wrap64 (rd x3 x14)) (wrap64 (((rd_T44 x0 x14).f2) + 1))))) : List Int)).bind fun y527 => ((cohousingref28_At.f k x0 ((rd_T44 x0 x14).f1)).bind fun t529 => (if t529 ≥ 0 then (if 0 ≤ t529 then (if t529 < (x12.length : Int) then (cohousinglaw30_LeakTruth.l0 k x0 x1 x2 x3 x4 x11 (y527.set (t529 : Int).toNat (wrap64 ((rd y527 t529) + (rd y527 x14)))) x13 (wrap64 (x14 - 1))) else (none)) else (none)) else (cohousinglaw30_LeakTruth.l0 k x0 x1 x2 x3 x4 x11 y527 x13 (wrap64 (x14 - 1))))))) else (none)) else (none)) else (none))) else (none)) else (none)))) else (cohousinglaw30_LeakTruth.l1 k x0 x4 x11 x13 ([] : List (S46)) x12 (x12.length : Int) 0)
def cohousinglaw30_LeakTruth.l1 : Nat → List (S44) → List Int → Bool → Int → List (S46) → List Int → Int → Int → Option (Bool)
 | 0, _, _, _, _, _, _, _, _ => none
 | k + 1, x0, x4, x11, x13, x16, x135, x136, x137 => if x137 < x136 then (if 0 ≤ x137 then (if x137 < (x135.length : Int) then (if x137 < (x4.length : Int) then (if x16.length < 8796093022208 then (cohousinglaw30_LeakTruth.l1 k x0 x4 x11 x13 (x16 ++ [(⟨mx 0 (wrap64 ((rd x135 x137) - (wrap64 (Int.tmod (rd x4 x137) 4)))), wrap64 ((rd x135 x137) + ((Int.tdiv (rd x4 x137) 4) % 256))⟩ : S46)]) x135 x136 (wrap64 (x137 + 1))) else (none)) else (none)) else (none)) else (none)) else (if x13 > 3 then (some x11) else ((leak_Explain.f x0 x16 x13).bind fun bt539 => (if x11 = true then (if bt539.2.2 = 0 then (if bt539.2.1 = true then (if (bt539.1.length : Int) ≤ x13 then ((cohousinglaw30_explains.f k x0 x16 bt539.1).bind fun t544 => (some t544)) else (some false)) else (some false)) else (some false)) else (some false))))
end
def cohousinglaw30_LeakTruth.f (k : Nat) (l0 : List (S44)) (l1 : List Bool) (l2 : List Int) (l3 : List Int) (l4 : List Int) : Option (Bool) := (cohousinglaw30_head.f k).bind fun t502 => (if (l0.length : Int) > 12 then (cohousinglaw30_LeakTruth.j0 k l0 l1 l2 l3 l4 t502 true) else ((cohousingref28_Valid.f k l0).bind fun t503 => (if t503 = true then (if (l1.length : Int) < (l0.length : Int) then (cohousinglaw30_LeakTruth.j0 k l0 l1 l2 l3 l4 t502 true) else (if (l2.length : Int) < (l0.length : Int) then (cohousinglaw30_LeakTruth.j0 k l0 l1 l2 l3 l4 t502 true) else (if (l3.length : Int) < (l0.length : Int) then (cohousinglaw30_LeakTruth.j0 k l0 l1 l2 l3 l4 t502 true) else (cohousinglaw30_LeakTruth.j0 k l0 l1 l2 l3 l4 t502 (decide ((l4.length : Int) < (l0.length : Int))))))) else (cohousinglaw30_LeakTruth.j0 k l0 l1 l2 l3 l4 t502 true))))
def cohousinglaw30_LeakTruth.T12 : Bool × List (List Nat × List Nat) := (true, [([], []), ([], []), ([0, 1], [0, 1]), ([2], [2]), ([], []), ([], []), ([4, 5], [4, 5]), ([6], [6]), ([7], [7]), ([3, 8], [3, 8]), ([0, 1, 0, 1, 2, 3, 4, 5, 6, 7, 8, 9], [0, 1]), ([10, 9, 0, 1, 2, 3, 4, 5, 6, 7, 8, 9], [9, 10])])
def cohousinglaw30_LeakTruth.B12 : List Nat := [0, 0, 3, 7, 0, 0, 48, 112, 240, 511, 1023, 2047]
theorem cohousinglaw30_LeakTruth.tab12 : rtab .any (opsOf Try.f10 12) = cohousinglaw30_LeakTruth.T12 := by kernel_rfl
theorem cohousinglaw30_LeakTruth.bits12 : waitsOk cohousinglaw30_LeakTruth.T12.2 cohousinglaw30_LeakTruth.B12 = true := by kernel_rfl
def cohousinglaw30_LeakTruth.T14 : Bool × List (List Nat × List Nat) := (true, [([], []), ([], []), ([0, 1], [0, 1]), ([2], [2]), ([], []), ([], []), ([4, 5], [4, 5]), ([6], [6]), ([7], [7]), ([], []), ([], []), ([9, 10], [9, 10]), ([11], [11]), ([12], [12]), ([13], [13]), ([8, 14], [8, 14]), ([3, 15], [3, 15]), ([0, 1, 0, 1, 2, 3, 4, 5, 6, 7, 8, 9, 10, 11, 12, 13, 14, 15, 16], [0, 1]), ([17, 16, 0, 1, 2, 3, 4, 5, 6, 7, 8, 9, 10, 11, 12, 13, 14, 15, 16], [16, 17])])
def cohousinglaw30_LeakTruth.B14 : List Nat := [0, 0, 3, 7, 0, 0, 48, 112, 240, 0, 0, 1536, 3584, 7680, 15872, 32752, 65535, 131071, 262143]
theorem cohousinglaw30_LeakTruth.tab14 : rtab .any (opsOf Try.f10 14) = cohousinglaw30_LeakTruth.T14 := by kernel_rfl
theorem cohousinglaw30_LeakTruth.bits14 : waitsOk cohousinglaw30_LeakTruth.T14.2 cohousinglaw30_LeakTruth.B14 = true := by kernel_rfl
def cohousinglaw30_LeakTruth.T17 : Bool × List (List Nat × List Nat) := (true, [([], []), ([], []), ([0, 1], [0, 1]), ([2], [2]), ([], []), ([], []), ([4, 5], [4, 5]), ([6], [6]), ([3, 7], [3, 7]), ([0, 1, 0, 1, 2, 3, 4, 5, 6, 7, 8], [0, 1]), ([9, 8, 0, 1, 2, 3, 4, 5, 6, 7, 8], [8, 9])])
def cohousinglaw30_LeakTruth.B17 : List Nat := [0, 0, 3, 7, 0, 0, 48, 112, 255, 511, 1023]
theorem cohousinglaw30_LeakTruth.tab17 : rtab .any (opsOf Try.f10 17) = cohousinglaw30_LeakTruth.T17 := by kernel_rfl
theorem cohousinglaw30_LeakTruth.bits17 : waitsOk cohousinglaw30_LeakTruth.T17.2 cohousinglaw30_LeakTruth.B17 = true := by kernel_rfl
def cohousinglaw30_LeakTruth.T22 : Bool × List (List Nat × List Nat) := (true, [([], []), ([], []), ([], []), ([], []), ([2, 3], [2, 3]), ([4], [4]), ([5], [5]), ([6], [6]), ([1, 7], [1, 7]), ([8], [8]), ([], []), ([], []), ([], []), ([11, 12], [11, 12]), ([13], [13]), ([14], [14]), ([15], [15]), ([10, 16], [10, 16]), ([9, 17], [9, 17]), ([18], [18]), ([0, 19], [0, 19]), ([20, 20, 0, 1, 2, 3, 4, 5, 6, 7, 8, 9, 10, 11, 12, 13, 14, 15, 16, 17, 18, 19, 20], [0, 20])])
def cohousinglaw30_LeakTruth.B22 : List Nat := [0, 0, 0, 0, 12, 28, 60, 124, 254, 510, 0, 0, 0, 6144, 14336, 30720, 63488, 130048, 262142, 524286, 1048575, 2097151]
theorem cohousinglaw30_LeakTruth.tab22 : rtab .any (opsOf Try.f10 22) = cohousinglaw30_LeakTruth.T22 := by kernel_rfl
theorem cohousinglaw30_LeakTruth.bits22 : waitsOk cohousinglaw30_LeakTruth.T22.2 cohousinglaw30_LeakTruth.B22 = true := by kernel_rfl
theorem cohousinglaw30_LeakTruth.calls (k : Nat) (A0 : Option Addr) (c0 : Nat) (l0 : List (S44)) (A1 : Option Addr) (c1 : Nat) (l1 : List Bool) (A2 : Option Addr) (c2 : Nat) (l2 : List Int) (A3 : Option Addr) (c3 : Nat) (l3 : List Int) (A4 : Option Addr) (c4 : Nat) (l4 : List Int) (r : Bool) (w : World) (hr0 : Kd.C k44 w A0 l0.length l0) (hc0 : l0.length ≤ c0) (hr1 : Kd.C Kd.bool w A1 l1.length l1) (hc1 : l1.length ≤ c1) (hr2 : Kd.C (Kd.int .u16) w A2 l2.length l2) (hc2 : l2.length ≤ c2) (hr3 : Kd.C (Kd.int .u16) w A3 l3.length l3) (hc3 : l3.length ≤ c3) (hr4 : Kd.C (Kd.int .u8) w A4 l4.length l4) (hc4 : l4.length ≤ c4) (h : cohousinglaw30_LeakTruth.f k l0 l1 l2 l3 l4 = some r) :
  Calls Try.prog 10 #[.slice A0 l0.length c0, .slice A1 l1.length c1, .slice A2 l2.length c2, .slice A3 l3.length c3, .slice A4 l4.length c4] w fun e w' => e = .returned (.bool r) ∧ Below w.heap.size w w' := by
 have hu46 := Try.underlying46
 have HR0 := Aside0.mk hr0
 have HC0 := Aside0.mk hc0
 clear hr0 hc0
 have HR1 := Aside0.mk hr1
 have HC1 := Aside0.mk hc1
 clear hr1 hc1
 have HR2 := Aside0.mk hr2
 have HC2 := Aside0.mk hc2
 clear hr2 hc2
 have HR3 := Aside0.mk hr3
 have HC3 := Aside0.mk hc3
 clear hr3 hc3
 have HR4 := Aside0.mk hr4
 have HC4 := Aside0.mk hc4
 clear hr4 hc4
 have HB := Aside0.mk (Below.refl w.heap.size w)
 have H : ((cohousinglaw30_head.f k).bind fun t502 => (if (l0.length : Int) > 12 then (cohousinglaw30_LeakTruth.j0 k l0 l1 l2 l3 l4 t502 true) else ((cohousingref28_Valid.f k l0).bind fun t503 => (if t503 = true then (if (l1.length : Int) < (l0.length : Int) then (cohousinglaw30_LeakTruth.j0 k l0 l1 l2 l3 l4 t502 true) else (if (l2.length : Int) < (l0.length : Int) then (cohousinglaw30_LeakTruth.j0 k l0 l1 l2 l3 l4 t502 true) else (if (l3.length : Int) < (l0.length : Int) then (cohousinglaw30_LeakTruth.j0 k l0 l1 l2 l3 l4 t502 true) else (cohousinglaw30_LeakTruth.j0 k l0 l1 l2 l3 l4 t502 (decide ((l4.length : Int) < (l0.length : Int))))))) else (cohousinglaw30_LeakTruth.j0 k l0 l1 l2 l3 l4 t502 true))))) = some r := h
 clear h
 replace H := Option.bind_eq_some_iff.mp H
 obtain ⟨t502, A60, H⟩ := H
 replace H : (if (l0.length : Int) > 12 then (cohousinglaw30_LeakTruth.j0 k l0 l1 l2 l3 l4 t502 true) else ((cohousingref28_Valid.f k l0).bind fun t503 => (if t503 = true then (if (l1.length : Int) < (l0.length : Int) then (cohousinglaw30_LeakTruth.j0 k l0 l1 l2 l3 l4 t502 true) else (if (l2.length : Int) < (l0.length : Int) then (cohousinglaw30_LeakTruth.j0 k l0 l1 l2 l3 l4 t502 true) else (if (l3.length : Int) < (l0.length : Int) then (cohousinglaw30_LeakTruth.j0 k l0 l1 l2 l3 l4 t502 true) else (cohousinglaw30_LeakTruth.j0 k l0 l1 l2 l3 l4 t502 (decide ((l4.length : Int) < (l0.length : Int))))))) else (cohousinglaw30_LeakTruth.j0 k l0 l1 l2 l3 l4 t502 true)))) = some r := H
 have A6 := Aside0.mk A60
 clear A60
 have HC7 := Aside0.mk H
 clear H
 go_enter Try.func10, Try.ntmps10
 go_upto_region 2 with (first | ((with_reducible refine gate_callee (f := 11) rfl ?_); refine gl_ (some 22) Try.func11 #[] ?_; (with_reducible refine (cohousinglaw30_head.calls k  t502 _ A6.out).mono ?_); rintro e w8 ⟨rfl, hb⟩; refine ⟨_, rfl, ?_⟩; have n0_ := Aside0.mk (below_step (bb_ HB) hb); clear HB; have HB := n0_; clear n0_; (try clear hb); (try clear hb2); (try clear hk); (try clear hi)))
 (try simp only [Act.put, sI_, s0_, sS_])
 go_cut [58] (fun v58 wc => ∃ (kq : Nat) (x58_6 : Bool), v58 = .bool x58_6 ∧ Aside0 (cohousinglaw30_LeakTruth.j0 kq l0 l1 l2 l3 l4 t502 x58_6 = some r) ∧ Aside0 (kq ≤ k) ∧ Aside0 (Below w.heap.size w wc))
 case first =>
  have H := HC7.out
  clear HC7
  by_cases c9 : (l0.length : Int) > 12
  ·rw [if_pos c9] at H
   have c9b0 : decide (12 < (l0.length : Int)) = true := decide_eq_true c9
   have c9b1 : decide (12 < l0.length) = true := decide_eq_true (by omega)
   clear c9
   (first | rw [c9b0] | (simp only [i64_w, i32_w]; rw [c9b0]) | skip)
   have H' := Aside0.mk H
   clear H
   go_wp2
   go_meet
   case rel => exact ⟨_, (true), sd_, H', ⟨by first | omega | exact Nat.le_refl _⟩, ⟨by repeat (first | (with_reducible first | exact HB.out | apply below_alloc | apply pw_below_drewN | apply below_drew1) | exact HB.out)⟩⟩
  ·rw [if_neg c9] at H
   have c9b0 : decide (12 < (l0.length : Int)) = false := decide_eq_false c9
   have c9b1 : decide (12 < l0.length) = false := decide_eq_false (by omega)
   clear c9
   (first | rw [c9b0] | (simp only [i64_w, i32_w]; rw [c9b0]) | skip)
   replace H := Option.bind_eq_some_iff.mp H
   obtain ⟨t503, A100, H⟩ := H
   replace H : (if t503 = true then (if (l1.length : Int) < (l0.length : Int) then (cohousinglaw30_LeakTruth.j0 k l0 l1 l2 l3 l4 t502 true) else (if (l2.length : Int) < (l0.length : Int) then (cohousinglaw30_LeakTruth.j0 k l0 l1 l2 l3 l4 t502 true) else (if (l3.length : Int) < (l0.length : Int) then (cohousinglaw30_LeakTruth.j0 k l0 l1 l2 l3 l4 t502 true) else (cohousinglaw30_LeakTruth.j0 k l0 l1 l2 l3 l4 t502 (decide ((l4.length : Int) < (l0.length : Int))))))) else (cohousinglaw30_LeakTruth.j0 k l0 l1 l2 l3 l4 t502 true)) = some r := H
   have A10 := Aside0.mk A100
   clear A100
   by_cases c11 : t503 = true
   ·subst c11
    have H1 : (if (l1.length : Int) < (l0.length : Int) then (cohousinglaw30_LeakTruth.j0 k l0 l1 l2 l3 l4 t502 true) else (if (l2.length : Int) < (l0.length : Int) then (cohousinglaw30_LeakTruth.j0 k l0 l1 l2 l3 l4 t502 true) else (if (l3.length : Int) < (l0.length : Int) then (cohousinglaw30_LeakTruth.j0 k l0 l1 l2 l3 l4 t502 true) else (cohousinglaw30_LeakTruth.j0 k l0 l1 l2 l3 l4 t502 (decide ((l4.length : Int) < (l0.length : Int))))))) = some r := by rw [if_pos rfl] at H; exact H
    clear H
    have H := H1
    clear H1
    by_cases c12 : (l1.length : Int) < (l0.length : Int)
    ·rw [if_pos c12] at H
     have c12b0 : decide ((l1.length : Int) < (l0.length : Int)) = true := decide_eq_true c12
     have c12b1 : decide (l1.length < l0.length) = true := decide_eq_true (Int.ofNat_lt.mp c12)
     clear c12
     have H' := Aside0.mk H
     clear H
     go_wp2_with (first | (go_at_call 23; (with_reducible refine (cohousingref28_Valid.calls k _ _ l0 true _ ?side1 ?side2 A10.out).mono ?_); (case side1 => exact cc_ ((Kd.C_below HR0.out HB.out))); (case side2 => exact HC0.out); rintro e w13 ⟨rfl, hb⟩; have n0_ := Aside0.mk (below_step (bb_ HB) hb); clear HB; have HB := n0_; clear n0_; (try clear hb); (try clear hb2); (try clear hk); (try clear hi)))
     go_meet
     case rel => exact ⟨_, (true), sd_, H', ⟨by first | omega | exact Nat.le_refl _⟩, ⟨by repeat (first | (with_reducible first | exact HB.out | apply below_alloc | apply pw_below_drewN | apply below_drew1) | exact HB.out)⟩⟩
    ·rw [if_neg c12] at H
     have c12b0 : decide ((l1.length : Int) < (l0.length : Int)) = false := decide_eq_false c12
     have c12b1 : decide (l1.length < l0.length) = false := decide_eq_false (fun h => c12 (Int.ofNat_lt.mpr h))
     clear c12
     by_cases c14 : (l2.length : Int) < (l0.length : Int)
     ·rw [if_pos c14] at H
      have c14b0 : decide ((l2.length : Int) < (l0.length : Int)) = true := decide_eq_true c14
      have c14b1 : decide (l2.length < l0.length) = true := decide_eq_true (Int.ofNat_lt.mp c14)
      clear c14
      have H' := Aside0.mk H
      clear H
      go_wp2_with (first | (go_at_call 23; (with_reducible refine (cohousingref28_Valid.calls k _ _ l0 true _ ?side1 ?side2 A10.out).mono ?_); (case side1 => exact cc_ ((Kd.C_below HR0.out HB.out))); (case side2 => exact HC0.out); rintro e w15 ⟨rfl, hb⟩; have n0_ := Aside0.mk (below_step (bb_ HB) hb); clear HB; have HB := n0_; clear n0_; (try clear hb); (try clear hb2); (try clear hk); (try clear hi)))
      go_meet
      case rel => exact ⟨_, (true), sd_, H', ⟨by first | omega | exact Nat.le_refl _⟩, ⟨by repeat (first | (with_reducible first | exact HB.out | apply below_alloc | apply pw_below_drewN | apply below_drew1) | exact HB.out)⟩⟩
     ·rw [if_neg c14] at H
      have c14b0 : decide ((l2.length : Int) < (l0.length : Int)) = false := decide_eq_false c14
      have c14b1 : decide (l2.length < l0.length) = false := decide_eq_false (fun h => c14 (Int.ofNat_lt.mpr h))
      clear c14
      by_cases c16 : (l3.length : Int) < (l0.length : Int)
      ·rw [if_pos c16] at H
       have c16b0 : decide ((l3.length : Int) < (l0.length : Int)) = true := decide_eq_true c16
       have c16b1 : decide (l3.length < l0.length) = true := decide_eq_true (Int.ofNat_lt.mp c16)
       clear c16
       have H' := Aside0.mk H
       clear H
       go_wp2_with (first | (go_at_call 23; (with_reducible refine (cohousingref28_Valid.calls k _ _ l0 true _ ?side1 ?side2 A10.out).mono ?_); (case side1 => exact cc_ ((Kd.C_below HR0.out HB.out))); (case side2 => exact HC0.out); rintro e w17 ⟨rfl, hb⟩; have n0_ := Aside0.mk (below_step (bb_ HB) hb); clear HB; have HB := n0_; clear n0_; (try clear hb); (try clear hb2); (try clear hk); (try clear hi)))
       go_meet
       case rel => exact ⟨_, (true), sd_, H', ⟨by first | omega | exact Nat.le_refl _⟩, ⟨by repeat (first | (with_reducible first | exact HB.out | apply below_alloc | apply pw_below_drewN | apply below_drew1) | exact HB.out)⟩⟩
      ·rw [if_neg c16] at H
       have c16b0 : decide ((l3.length : Int) < (l0.length : Int)) = false := decide_eq_false c16
       have c16b1 : decide (l3.length < l0.length) = false := decide_eq_false (fun h => c16 (Int.ofNat_lt.mpr h))
       clear c16
       have H' := Aside0.mk H
       clear H
       go_wp2_with (first | (go_at_call 23; (with_reducible refine (cohousingref28_Valid.calls k _ _ l0 true _ ?side1 ?side2 A10.out).mono ?_); (case side1 => exact cc_ ((Kd.C_below HR0.out HB.out))); (case side2 => exact HC0.out); rintro e w18 ⟨rfl, hb⟩; have n0_ := Aside0.mk (below_step (bb_ HB) hb); clear HB; have HB := n0_; clear n0_; (try clear hb); (try clear hb2); (try clear hk); (try clear hi)))
       go_meet
       case rel => exact ⟨_, (decide ((l4.length : Int) < (l0.length : Int))), sd_, H', ⟨by first | omega | exact Nat.le_refl _⟩, ⟨by repeat (first | (with_reducible first | exact HB.out | apply below_alloc | apply pw_below_drewN | apply below_drew1) | exact HB.out)⟩⟩
   ·replace c11 := Bool.eq_false_iff.mpr c11
    subst c11
    have H1 : (cohousinglaw30_LeakTruth.j0 k l0 l1 l2 l3 l4 t502 true) = some r := by rw [if_neg (show ¬ (false = true) by decide)] at H; exact H
    clear H
    have H := H1
    clear H1
    have H' := Aside0.mk H
    clear H
    go_wp2_with (first | (go_at_call 23; (with_reducible refine (cohousingref28_Valid.calls k _ _ l0 false _ ?side1 ?side2 A10.out).mono ?_); (case side1 => exact cc_ ((Kd.C_below HR0.out HB.out))); (case side2 => exact HC0.out); rintro e w19 ⟨rfl, hb⟩; have n0_ := Aside0.mk (below_step (bb_ HB) hb); clear HB; have HB := n0_; clear n0_; (try clear hb); (try clear hb2); (try clear hk); (try clear hi)))
    go_meet
    case rel => exact ⟨_, (true), sd_, H', ⟨by first | omega | exact Nat.le_refl _⟩, ⟨by repeat (first | (with_reducible first | exact HB.out | apply below_alloc | apply pw_below_drewN | apply below_drew1) | exact HB.out)⟩⟩
 case rest =>
  clear HC7
  try clear c1
  try clear c2
  try clear p2
  try clear c3
  try clear c4
  try clear c9
  try clear c9b0
  try clear c9b1
  try clear c10
  try clear c11
  try clear c12
  try clear c12b0
  try clear c12b1
  try clear c14
  try clear c14b0
  try clear c14b1
  try clear c16
  try clear c16b0
  try clear c16b1
  obtain ⟨kq, x58_6, rfl, HA, HJ6, HB⟩ := hcut
  cases kq with
  | zero => exact absurd HA.out (by simp [cohousinglaw30_LeakTruth.j0])
  | succ kj6 =>
   have H := HA.out
   clear HA
   simp only [cohousinglaw30_LeakTruth.j0] at H
   by_cases c20 : x58_6 = true
   ·subst c20
    have H1 : (some t502) = some r := by rw [if_pos rfl] at H; exact H
    clear H
    have H := H1
    clear H1
    obtain rfl := Option.some.inj H
    go_wp2
    go_ret
    exact ⟨ew_, by repeat (first | (with_reducible first | exact HB.out | apply below_alloc | apply pw_below_drewN | apply below_drew1) | exact HB.out)⟩
   ·replace c20 := Bool.eq_false_iff.mpr c20
    subst c20
    have H1 : (if 0 ≤ (l0.length : Int) then (if ((l0.length : Int) : Int).toNat ≤ 35184372088832 then (cohousinglaw30_LeakTruth.l0 kj6 l0 l1 l2 l3 l4 t502 (List.replicate ((l0.length : Int) : Int).toNat 0) 0 (wrap64 ((l0.length : Int) - 1))) else (none)) else (none)) = some r := by rw [if_neg (show ¬ (false = true) by decide)] at H; exact H
    clear H
    have H := H1
    clear H1
    by_cases c21 : 0 ≤ (l0.length : Int)
    ·rw [if_pos c21] at H
     have c21b0 := eq_true c21
     have c21b1 : decide (0 ≤ (l0.length : Int)) = true := decide_eq_true c21
     clear c21
     by_cases c22 : ((l0.length : Int) : Int).toNat ≤ 35184372088832
     ·rw [if_pos c22] at H
      have c22b0 := eq_true c22
      have c22b1 : decide (((l0.length : Int) : Int).toNat ≤ 35184372088832) = true := decide_eq_true c22
      clear c22
      obtain ⟨y504, hy504⟩ : ∃ y_ : List Int, y_ = (List.replicate ((l0.length : Int) : Int).toNat 0) := ⟨_, rfl⟩
      replace H : (cohousinglaw30_LeakTruth.l0 kj6 l0 l1 l2 l3 l4 t502 y504 0 (wrap64 ((l0.length : Int) - 1))) = some r := by first | (rw [hy504]; with_reducible exact H) | (have H2_ := (Option.bind_some _ _).symm.trans H; rw [hy504]; with_reducible exact H2_) | (have H2_ := (Option.bind_some _ _).symm.trans H; with_reducible exact H2_) | with_reducible exact H | (rw [hy504]; exact H) | exact H
      have Ny504 := Aside0.mk hy504
      clear hy504
      have H' := Aside0.mk H
      clear H
      go_wp2_with (first | ((with_reducible refine gate_dst (N := 62) rfl ?_); (try (refine gate_guard (by rfl) ?_; dsimp only)); refine Kd.R_make (Kd.int .i64) _ 3 rfl (N := 62) rfl 26 _ _ rfl (l0.length : Int) rfl rfl Try.underlying26 (.int .i64 0) 8 info3 rfl (by decide) (by omega) 0 (ok := fun _ => True) (okp := fun _ => True) rfl (fun _ hk => hk) trivial (od_) (Nat.le_trans (Nat.mul_le_mul_right _ (od_ : (l0.length : Int).toNat ≤ 35184372088832)) (by omega)) (Below.refl _ _) (Nat.le_refl _) ?_; intro v505 w23 ho24 hb hg_ hnew_; clear hg_ hnew_; (first | rw [← Ny504.out] at ho24 | (simp only [Int.reduceToNat] at ho24; rw [← Ny504.out] at ho24)); have n0_ := Aside0.mk (Kd.R_lower ho24 (below_size (bb_ HB))); have n1_ := Aside0.mk (below_step (bb_ HB) hb); clear HB; have HO506 := n0_; have HB := n1_; clear n0_ n1_; clear hb ho24))
      go_loopg [13, 14] kj6 (fun kq v13 v14 w' => ∃ (x12_2 : List Int) (x13_2 : Int) (x14_2 : Int), v13 = .int .i64 x13_2 ∧ v14 = .int .i64 x14_2 ∧ Aside0 (cohousinglaw30_LeakTruth.l0 kq l0 l1 l2 l3 l4 t502 x12_2 x13_2 x14_2 = some r) ∧ Aside0 (kq ≤ kj6) ∧ Aside0 (Kd.R (Kd.int .i64) 3 w' w.heap.size (fun _ => True) v505 x12_2) ∧ Aside0 (Below w.heap.size w w'))
      case atStart => exact ⟨(y504), (0), (wrap64 ((l0.length : Int) - 1)), sd_, sd_, H', ⟨Nat.le_refl _⟩, ⟨by (with_reducible repeat (first | apply Kd.R_alloc | apply Kd.R_drewN | apply Kd.R_drew)); exact HO506.out⟩, ⟨by repeat (first | (with_reducible first | exact HB.out | apply below_alloc | apply pw_below_drewN | apply below_drew1) | exact HB.out)⟩⟩
      case round =>
       clear H'
       try clear c1
       try clear c2
       try clear p2
       try clear c3
       try clear c4
       try clear p6
       try clear c9
       try clear c9b0
       try clear c9b1
       try clear c10
       try clear c11
       try clear c12
       try clear c12b0
       try clear c12b1
       try clear c14
       try clear c14b0
       try clear c14b1
       try clear c16
       try clear c16b0
       try clear c16b1
       try clear c20
       try clear c21
       try clear c21b0
       try clear c21b1
       try clear c22
       try clear c22b0
       try clear c22b1
       try clear p2
       obtain ⟨x12_2, x13_2, x14_2, rfl, rfl, HA, HK2, HO_12, HB⟩ := hrel
       cases gk with
       | zero => exact absurd HA.out (by simp [cohousinglaw30_LeakTruth.l0])
       | succ k2 =>
        have H := HA.out
        clear HA
        simp only [cohousinglaw30_LeakTruth.l0] at H
        by_cases c25 : x14_2 ≥ 0
        ·rw [if_pos c25] at H
         have c25b0 : decide (0 ≤ x14_2) = true := decide_eq_true c25
         clear c25
         replace H := Option.bind_eq_some_iff.mp H
         obtain ⟨t507, A260, H⟩ := H
         replace H : (if t507 = true then (if 0 ≤ x14_2 then (if x14_2 < (l2.length : Int) then (if x14_2 < (x12_2.length : Int) then ((some (x12_2.set (x14_2 : Int).toNat (wrap64 (rd l2 x14_2)) : List Int)).bind fun y509 => (if x14_2 < (l0.length : Int) then ((cohousingref28_At.f k2 l0 ((rd_T44 l0 x14_2).f1)).bind fun t511 => (if t511 ≥ 0 then (if 0 ≤ t511 then (if t511 < (x12_2.length : Int) then (cohousinglaw30_LeakTruth.l0 k2 l0 l1 l2 l3 l4 t502 (y509.set (t511 : Int).toNat (wrap64 ((rd y509 t511) + (rd y509 x14_2)))) x13_2 (wrap64 (x14_2 - 1))) else (none)) else (none)) else (cohousinglaw30_LeakTruth.l0 k2 l0 l1 l2 l3 l4 t502 y509 x13_2 (wrap64 (x14_2 - 1))))) else (none))) else (none)) else (none)) else (none)) else (if 0 ≤ x14_2 then (if x14_2 < (l1.length : Int) then (if rdOf false l1 x14_2 = true then (if x14_2 < (x12_2.length : Int) then (if x14_2 < (l3.length : Int) then ((some (x12_2.set (x14_2 : Int).toNat (wrap64 ((rd x12_2 x14_2) + (wrap64 (rd l3 x14_2)))) : List Int)).bind fun y518 => (if x14_2 < (l0.length : Int) then ((cohousingref28_At.f k2 l0 ((rd_T44 l0 x14_2).f1)).bind fun t520 => (if t520 ≥ 0 then (if 0 ≤ t520 then (if t520 < (x12_2.length : Int) then (cohousinglaw30_LeakTruth.l0 k2 l0 l1 l2 l3 l4 t502 (y518.set (t520 : Int).toNat (wrap64 ((rd y518 t520) + (rd y518 x14_2)))) (wrap64 (x13_2 + 1)) (wrap64 (x14_2 - 1))) else (none)) else (none)) else (cohousinglaw30_LeakTruth.l0 k2 l0 l1 l2 l3 l4 t502 y518 (wrap64 (x13_2 + 1)) (wrap64 (x14_2 - 1))))) else (none))) else (none)) else (none)) else (if x14_2 < (x12_2.length : Int) then (if x14_2 < (l3.length : Int) then (if x14_2 < (l0.length : Int) then (if (wrap64 (((rd_T44 l0 x14_2).f2) + 1)) = 0 then (none) else ((some (x12_2.set (x14_2 : Int).toNat (wrap64 ((rd x12_2 x14_2) + (Int.tmod (wrap64 (rd l3 x14_2)) (wrap64 (((rd_T44 l0 x14_2).f2) + 1))))) : List Int)).bind fun y527 => ((cohousingref28_At.f k2 l0 ((rd_T44 l0 x14_2).f1)).bind fun t529 => (if t529 ≥ 0 then (if 0 ≤ t529 then (if t529 < (x12_2.length : Int) then (cohousinglaw30_LeakTruth.l0 k2 l0 l1 l2 l3 l4 t502 (y527.set (t529 : Int).toNat (wrap64 ((rd y527 t529) + (rd y527 x14_2)))) x13_2 (wrap64 (x14_2 - 1))) else (none)) else (none)) else (cohousinglaw30_LeakTruth.l0 k2 l0 l1 l2 l3 l4 t502 y527 x13_2 (wrap64 (x14_2 - 1))))))) else (none)) else (none)) else (none))) else (none)) else (none))) = some r := H
         have A26 := Aside0.mk A260
         clear A260
         by_cases c27 : t507 = true
         ·subst c27
          have H1 : (if 0 ≤ x14_2 then (if x14_2 < (l2.length : Int) then (if x14_2 < (x12_2.length : Int) then ((some (x12_2.set (x14_2 : Int).toNat (wrap64 (rd l2 x14_2)) : List Int)).bind fun y509 => (if x14_2 < (l0.length : Int) then ((cohousingref28_At.f k2 l0 ((rd_T44 l0 x14_2).f1)).bind fun t511 => (if t511 ≥ 0 then (if 0 ≤ t511 then (if t511 < (x12_2.length : Int) then (cohousinglaw30_LeakTruth.l0 k2 l0 l1 l2 l3 l4 t502 (y509.set (t511 : Int).toNat (wrap64 ((rd y509 t511) + (rd y509 x14_2)))) x13_2 (wrap64 (x14_2 - 1))) else (none)) else (none)) else (cohousinglaw30_LeakTruth.l0 k2 l0 l1 l2 l3 l4 t502 y509 x13_2 (wrap64 (x14_2 - 1))))) else (none))) else (none)) else (none)) else (none)) = some r := by rw [if_pos rfl] at H; exact H
          clear H
          have H := H1
          clear H1
          by_cases c28 : 0 ≤ x14_2
          ·rw [if_pos c28] at H
           have c28b0 : decide (0 ≤ x14_2) = true := decide_eq_true c28
           clear c28
           by_cases c29 : x14_2 < (l2.length : Int)
           ·rw [if_pos c29] at H
            have c29b0 : decide (x14_2 < (l2.length : Int)) = true := decide_eq_true c29
            clear c29
            by_cases c30 : x14_2 < (x12_2.length : Int)
            ·rw [if_pos c30] at H
             have c30b0 : decide (x14_2 < (x12_2.length : Int)) = true := decide_eq_true c30
             clear c30
             obtain ⟨y509, hy509⟩ : ∃ y_ : List Int, y_ = (x12_2.set (x14_2 : Int).toNat (wrap64 (rd l2 x14_2))) := ⟨_, rfl⟩
             replace H : (if x14_2 < (l0.length : Int) then ((cohousingref28_At.f k2 l0 ((rd_T44 l0 x14_2).f1)).bind fun t511 => (if t511 ≥ 0 then (if 0 ≤ t511 then (if t511 < (x12_2.length : Int) then (cohousinglaw30_LeakTruth.l0 k2 l0 l1 l2 l3 l4 t502 (y509.set (t511 : Int).toNat (wrap64 ((rd y509 t511) + (rd y509 x14_2)))) x13_2 (wrap64 (x14_2 - 1))) else (none)) else (none)) else (cohousinglaw30_LeakTruth.l0 k2 l0 l1 l2 l3 l4 t502 y509 x13_2 (wrap64 (x14_2 - 1))))) else (none)) = some r := by first | (rw [hy509]; with_reducible exact H) | (have H2_ := (Option.bind_some _ _).symm.trans H; rw [hy509]; with_reducible exact H2_) | (have H2_ := (Option.bind_some _ _).symm.trans H; with_reducible exact H2_) | with_reducible exact H | (rw [hy509]; exact H) | exact H
             have Ny509 := Aside0.mk hy509
             clear hy509
             by_cases c32 : x14_2 < (l0.length : Int)
             ·rw [if_pos c32] at H
              have c32b0 : decide (x14_2 < (l0.length : Int)) = true := decide_eq_true c32
              clear c32
              replace H := Option.bind_eq_some_iff.mp H
              obtain ⟨t511, A330, H⟩ := H
              replace H : (if t511 ≥ 0 then (if 0 ≤ t511 then (if t511 < (x12_2.length : Int) then (cohousinglaw30_LeakTruth.l0 k2 l0 l1 l2 l3 l4 t502 (y509.set (t511 : Int).toNat (wrap64 ((rd y509 t511) + (rd y509 x14_2)))) x13_2 (wrap64 (x14_2 - 1))) else (none)) else (none)) else (cohousinglaw30_LeakTruth.l0 k2 l0 l1 l2 l3 l4 t502 y509 x13_2 (wrap64 (x14_2 - 1)))) = some r := H
              have A33 := Aside0.mk A330
              clear A330
              by_cases c34 : t511 ≥ 0
              ·rw [if_pos c34] at H
               have c34b0 : decide (0 ≤ t511) = true := decide_eq_true c34
               clear c34
               by_cases c35 : 0 ≤ t511
               ·rw [if_pos c35] at H
                have c35b0 : decide (0 ≤ t511) = true := decide_eq_true c35
                clear c35
                by_cases c36 : t511 < (x12_2.length : Int)
                ·rw [if_pos c36] at H
                 have c36b0 : decide (t511 < (x12_2.length : Int)) = true := decide_eq_true c36
                 clear c36
                 obtain ⟨y514, hy514⟩ : ∃ y_ : List Int, y_ = (y509.set (t511 : Int).toNat (wrap64 ((rd y509 t511) + (rd y509 x14_2)))) := ⟨_, rfl⟩
                 replace H : (cohousinglaw30_LeakTruth.l0 k2 l0 l1 l2 l3 l4 t502 y514 x13_2 (wrap64 (x14_2 - 1))) = some r := by first | (rw [hy514]; with_reducible exact H) | (have H2_ := (Option.bind_some _ _).symm.trans H; rw [hy514]; with_reducible exact H2_) | (have H2_ := (Option.bind_some _ _).symm.trans H; with_reducible exact H2_) | with_reducible exact H | (rw [hy514]; exact H) | exact H
                 have Ny514 := Aside0.mk hy514
                 clear hy514
                 have H' := Aside0.mk H
                 clear H
                 try go_wp2_with (first | ((with_reducible refine gate_callee (f := 24) rfl ?_); refine gl_ (some 72) Try.func24 #[.slice A0 l0.length c0, .int .i64 x14_2] ?_; (with_reducible refine (cohousingref28_Leaf.calls k2 _ _ l0 x14_2 true _ ?side1 ?side2 A26.out).mono ?_); (case side1 => exact cc_ ((Kd.C_below HR0.out HB.out))); (case side2 => exact HC0.out); rintro e w38 ⟨rfl, hb⟩; refine ⟨_, rfl, ?_⟩; have n0_ := Aside0.mk (Kd.R_below (rr_ HO_12) hb); have n1_ := Aside0.mk (below_step (bb_ HB) hb); clear HO_12; clear HB; have HO_12 := n0_; have HB := n1_; clear n0_ n1_; (try clear hb); (try clear hb2); (try clear hk); (try clear hi); have p508 : 0 ≤ (x14_2 : Int) := od_; have q508 : x14_2 < (l2.length : Int) := od_; obtain ⟨ad508, e508, hx508_0⟩ := Kd.at_int HR2.out x14_2 p508 q508; cases e508; replace hx508_0 := (HB.out.cell (World.block_lt_of_cell? w _ hx508_0)).trans hx508_0; replace p508 := eq_true p508; replace q508 := eq_true q508; have p31 : 0 ≤ (x14_2 : Int) := od_; have q31 : (x14_2 : Int) < ((x12_2.length : Int) : Int) := od_; obtain ⟨go31, co31, eo31, gb31, gl31, cl31, HG31⟩ := Kd.R_form HO_12.out (by omega); (first | cases eo31 | (injection eo31 with ea_ en_ ec_; (first | subst ea_ | (injection ea_ with ea_; subst ea_)); subst ec_; clear en_)); have GB31 := Aside0.mk gb31; have GG31 := Aside0.mk HG31; clear gb31 gl31 HG31; obtain ⟨hx31_0, hf31_0⟩ := Kd.R_celln 0 HO_12.out (x14_2 : Int) p31 q31; replace p31 := eq_true p31; replace q31 := eq_true q31; obtain ⟨hy39_, hz39_⟩ := Kd.R_celln 0 HO_12.out (x14_2 : Int) (od_) (od_); have HP39 := Kd.R_putg HO_12.out (x14_2 : Int) (wrap64 (rd l2 x14_2))) | ((with_reducible refine gate_store (t := 3) (p := 80) rfl ?_); refine store_event (t := 3) (p := 80) (v := ?vo_w40) (w1 := (w38.setCell ⟨go31, (x14_2 : Int).toNat, none⟩ (.int .i64 (wrap64 (rd l2 x14_2))))) ?hg ?ho ?hn ?hr ?_; (case ho => rfl); (case hg => rfl); (case hn => rfl); (case hr => first | (go_simp; done) | (go_simp; rfl)); intro w40 hw; have hg : w38.grownBy w40 (some go31) := (by rw [hw]; exact HP39.2); have hp_ : Kd.R (Kd.int .i64) 3 w40 w.heap.size (fun _ => True) (.slice (some ⟨go31, 0, none⟩) x12_2.length co31) y509 := (by rw [hw, Ny509.out]; exact HP39.1); clear HP39; have n0_ := Aside0.mk (hp_); have n1_ := Aside0.mk ((by rw [hw]; exact below_set (HB.out) GB31.out : Below w.heap.size w w40)); clear HO_12; clear HB; have HO_12 := n0_; have HB := n1_; clear n0_ n1_; clear hg hw hp_; have p510 : 0 ≤ (x14_2 : Int) := od_; have q510 : x14_2 < (l0.length : Int) := od_; obtain ⟨ad510, e510, hx510_0, hx510_1, hx510_2⟩ := at_T44 HR0.out x14_2 p510 q510; cases e510; replace hx510_0 := (HB.out.cell (World.block_lt_of_cell? w _ hx510_0)).trans hx510_0; replace hx510_1 := (HB.out.cell (World.block_lt_of_cell? w _ hx510_1)).trans hx510_1; replace hx510_2 := (HB.out.cell (World.block_lt_of_cell? w _ hx510_2)).trans hx510_2; replace p510 := eq_true p510; replace q510 := eq_true q510) | ((with_reducible refine gate_callee (f := 25) rfl ?_); refine gl_ (some 122) Try.func25 #[.slice (some ad510) l0.length c0, .int .i64 ((rd_T44 l0 x14_2).f1)] ?_; (with_reducible refine (cohousingref28_At.calls k2 _ _ l0 ((rd_T44 l0 x14_2).f1) t511 _ ?side1 ?side2 A33.out).mono ?_); (case side1 => exact cc_ ((Kd.C_below HR0.out HB.out))); (case side2 => exact HC0.out); rintro e w' ⟨rfl, ⟨nd, rfl⟩⟩; refine ⟨_, rfl, ?_⟩; (try (rw [drewN_self w40]; generalize hq_ : World.drewN w40 _ = w40; have n0_ : Aside0 (Kd.R (Kd.int .i64) 3 w40 w.heap.size (fun _ => True) (.slice (some ⟨go31, 0, none⟩) x12_2.length co31) y509) := ⟨by rw [← hq_]; exact (rr_ HO_12)⟩; have n1_ : Aside0 (Below w.heap.size w w40) := ⟨by rw [← hq_]; exact (bb_ HB)⟩; clear HO_12 HB hq_; have HO_12 := n0_; have HB := n1_; clear n0_ n1_))))
                 have n0_ := Aside0.mk (Kd.R_drew HO_12.out)
                 have n1_ := Aside0.mk (below_drew1 HB.out)
                 clear HO_12
                 clear HB
                 have HO_12 := n0_
                 have HB := n1_
                 clear n0_ n1_
                 have p512 : 0 ≤ (t511 : Int) := od_
                 have q512 : t511 < (y509.length : Int) := (by have h_ : (t511 : Int) < ((x12_2.length : Int) : Int) := od_; first | (have e_ := (Kd.R_reads' HO_12.out).1; omega) | simpa only [Ny509.out, List.length_set] using h_)
                 have ql512 : ((t511 : Int) < ((x12_2.length : Int) : Int)) = True := eq_true (od_)
                 obtain ⟨ad512, e512, hx512_0⟩ := Kd.at_int (Kd.R_reads' HO_12.out).2.2 t511 p512 q512
                 obtain rfl : (⟨go31, 0, none⟩ : Addr) = ad512 := (by injection e512)
                 (first | simp only [add_plain] at hx512_0 | simp only [add_at] at hx512_0 | simp only [Addr.add, Nat.zero_add] at hx512_0 | skip)
                 replace p512 := eq_true p512
                 replace q512 := eq_true q512
                 have p513 : 0 ≤ (x14_2 : Int) := od_
                 have q513 : x14_2 < (y509.length : Int) := (by have h_ : (x14_2 : Int) < ((x12_2.length : Int) : Int) := od_; first | (have e_ := (Kd.R_reads' HO_12.out).1; omega) | simpa only [Ny509.out, List.length_set] using h_)
                 have ql513 : ((x14_2 : Int) < ((x12_2.length : Int) : Int)) = True := eq_true (od_)
                 obtain ⟨ad513, e513, hx513_0⟩ := Kd.at_int (Kd.R_reads' HO_12.out).2.2 x14_2 p513 q513
                 obtain rfl : (⟨go31, 0, none⟩ : Addr) = ad513 := (by injection e513)
                 (first | simp only [add_plain] at hx513_0 | simp only [add_at] at hx513_0 | simp only [Addr.add, Nat.zero_add] at hx513_0 | skip)
                 replace p513 := eq_true p513
                 replace q513 := eq_true q513
                 have p37 : 0 ≤ (t511 : Int) := od_
                 have q37 : (t511 : Int) < ((x12_2.length : Int) : Int) := od_
                 obtain ⟨hx37_0, hf37_0⟩ := Kd.R_celln 0 HO_12.out (t511 : Int) p37 q37
                 replace p37 := eq_true p37
                 replace q37 := eq_true q37
                 have HP42 := Kd.R_putn HO_12.out (t511 : Int) (wrap64 ((rd y509 t511) + (rd y509 x14_2)))
                 rw [← Ny514.out] at HP42
                 have HQ42 := Aside0.mk HP42
                 clear HP42
                 refine start_ (n := 11) (S := fun w' => w'.cell? ⟨go31, (t511).toNat, none⟩ = some (.int .i64 (rd y509 t511)) ∧ w'.cell? ⟨go31, (x14_2).toNat, none⟩ = some (.int .i64 (rd y509 x14_2))) (ds := [10]) #[n_, n_, n_, n_, n_, n_, n_, n_, n_, n_, n_] (by kernel_rfl) rfl rfl ⟨hx512_0, hx513_0⟩ (fun hHeld => ?_); refine with_tabW cohousinglaw30_LeakTruth.tab17 cohousinglaw30_LeakTruth.bits17 (fun HT_ HW_ => ?_)
                 generalize w40.drew = w41 at HO_12 HB HQ42 hf37_0 hx37_0 hx512_0 hx513_0 hHeld ⊢
                 refine pu_ 0 125 (w_ 11 1) rfl HT_ ?_
                 refine pu_ 1 126 (w_ 11 3) rfl HT_ ?_
                 refine pu_ 2 127 (w_ 11 7) rfl HT_ ?_
                 refine pu_ 4 129 (w_ 11 23) rfl HT_ ?_
                 refine pu_ 5 130 (w_ 11 55) rfl HT_ ?_
                 refine pu_ 6 131 (w_ 11 119) rfl HT_ ?_
                 refine ta_ 3 128 (w_ 11 127) rfl HT_ HW_ hHeld (by rintro w' ⟨s0, s1⟩; go_simp; with_reducible rfl) ?_
                 refine ta_ 7 132 (w_ 11 255) rfl HT_ HW_ hHeld (by rintro w' ⟨s0, s1⟩; go_simp; with_reducible rfl) ?_
                 refine pu_ 8 133 (w_ 11 511) rfl HT_ ?_
                 refine pu_ 9 134 (w_ 11 1023) rfl HT_ ?_
                 refine last_ (i := 10) (N := none) (w_ 11 2047) rfl rfl (one_of HT_.out (by kernel_rfl)) (by decide) (fun K hK => ?_)
                 refine skip_ (w1 := ?_) (by rfl) rfl ?_ ?_
                 rotate_left
                 ·go_simp
                  rfl
                 refine hK.out _ _ ?_
                 clear hK K
                 refine done_ (done_of HT_.out (by kernel_rfl)) ?_
                 try go_wp2
                 go_roundg k2
                 case measure => have := HJ6.out; have := HK2.out; omega
                 case rel => exact ⟨(y514), (x13_2), (wrap64 (x14_2 - 1)), sd_, sd_, H', ⟨by have := HJ6.out; have := HK2.out; omega⟩, ⟨by (with_reducible repeat (first | apply Kd.R_alloc | apply Kd.R_drewN | apply Kd.R_drew)); exact HQ42.out⟩, ⟨by repeat (first | (with_reducible first | exact HB.out | apply below_alloc | apply pw_below_drewN | apply below_drew1 | refine below_set ?_ GB31.out) | exact HB.out)⟩⟩
                ·rw [if_neg c36] at H
                 exact absurd H (by simp)
               ·rw [if_neg c35] at H
                exact absurd H (by simp)
              ·rw [if_neg c34] at H
               have c34b0 : decide (0 ≤ t511) = false := decide_eq_false c34
               clear c34
               have H' := Aside0.mk H
               clear H
               go_wp2_with (first | ((with_reducible refine gate_callee (f := 24) rfl ?_); refine gl_ (some 72) Try.func24 #[.slice A0 l0.length c0, .int .i64 x14_2] ?_; (with_reducible refine (cohousingref28_Leaf.calls k2 _ _ l0 x14_2 true _ ?side1 ?side2 A26.out).mono ?_); (case side1 => exact cc_ ((Kd.C_below HR0.out HB.out))); (case side2 => exact HC0.out); rintro e w43 ⟨rfl, hb⟩; refine ⟨_, rfl, ?_⟩; have n0_ := Aside0.mk (Kd.R_below (rr_ HO_12) hb); have n1_ := Aside0.mk (below_step (bb_ HB) hb); clear HO_12; clear HB; have HO_12 := n0_; have HB := n1_; clear n0_ n1_; (try clear hb); (try clear hb2); (try clear hk); (try clear hi); have p508 : 0 ≤ (x14_2 : Int) := od_; have q508 : x14_2 < (l2.length : Int) := od_; obtain ⟨ad508, e508, hx508_0⟩ := Kd.at_int HR2.out x14_2 p508 q508; cases e508; replace hx508_0 := (HB.out.cell (World.block_lt_of_cell? w _ hx508_0)).trans hx508_0; replace p508 := eq_true p508; replace q508 := eq_true q508; have p31 : 0 ≤ (x14_2 : Int) := od_; have q31 : (x14_2 : Int) < ((x12_2.length : Int) : Int) := od_; obtain ⟨go31, co31, eo31, gb31, gl31, cl31, HG31⟩ := Kd.R_form HO_12.out (by omega); (first | cases eo31 | (injection eo31 with ea_ en_ ec_; (first | subst ea_ | (injection ea_ with ea_; subst ea_)); subst ec_; clear en_)); have GB31 := Aside0.mk gb31; have GG31 := Aside0.mk HG31; clear gb31 gl31 HG31; obtain ⟨hx31_0, hf31_0⟩ := Kd.R_celln 0 HO_12.out (x14_2 : Int) p31 q31; replace p31 := eq_true p31; replace q31 := eq_true q31; obtain ⟨hy44_, hz44_⟩ := Kd.R_celln 0 HO_12.out (x14_2 : Int) (od_) (od_); have HP44 := Kd.R_putg HO_12.out (x14_2 : Int) (wrap64 (rd l2 x14_2))) | ((with_reducible refine gate_store (t := 3) (p := 80) rfl ?_); refine store_event (t := 3) (p := 80) (v := ?vo_w45) (w1 := (w43.setCell ⟨go31, (x14_2 : Int).toNat, none⟩ (.int .i64 (wrap64 (rd l2 x14_2))))) ?hg ?ho ?hn ?hr ?_; (case ho => rfl); (case hg => rfl); (case hn => rfl); (case hr => first | (go_simp; done) | (go_simp; rfl)); intro w45 hw; have hg : w43.grownBy w45 (some go31) := (by rw [hw]; exact HP44.2); have hp_ : Kd.R (Kd.int .i64) 3 w45 w.heap.size (fun _ => True) (.slice (some ⟨go31, 0, none⟩) x12_2.length co31) y509 := (by rw [hw, Ny509.out]; exact HP44.1); clear HP44; have n0_ := Aside0.mk (hp_); have n1_ := Aside0.mk ((by rw [hw]; exact below_set (HB.out) GB31.out : Below w.heap.size w w45)); clear HO_12; clear HB; have HO_12 := n0_; have HB := n1_; clear n0_ n1_; clear hg hw hp_; have p510 : 0 ≤ (x14_2 : Int) := od_; have q510 : x14_2 < (l0.length : Int) := od_; obtain ⟨ad510, e510, hx510_0, hx510_1, hx510_2⟩ := at_T44 HR0.out x14_2 p510 q510; cases e510; replace hx510_0 := (HB.out.cell (World.block_lt_of_cell? w _ hx510_0)).trans hx510_0; replace hx510_1 := (HB.out.cell (World.block_lt_of_cell? w _ hx510_1)).trans hx510_1; replace hx510_2 := (HB.out.cell (World.block_lt_of_cell? w _ hx510_2)).trans hx510_2; replace p510 := eq_true p510; replace q510 := eq_true q510) | ((with_reducible refine gate_callee (f := 25) rfl ?_); refine gl_ (some 122) Try.func25 #[.slice (some ad510) l0.length c0, .int .i64 ((rd_T44 l0 x14_2).f1)] ?_; (with_reducible refine (cohousingref28_At.calls k2 _ _ l0 ((rd_T44 l0 x14_2).f1) t511 _ ?side1 ?side2 A33.out).mono ?_); (case side1 => exact cc_ ((Kd.C_below HR0.out HB.out))); (case side2 => exact HC0.out); rintro e w' ⟨rfl, ⟨nd, rfl⟩⟩; refine ⟨_, rfl, ?_⟩))
               go_roundg k2
               case measure => have := HJ6.out; have := HK2.out; omega
               case rel => exact ⟨(y509), (x13_2), (wrap64 (x14_2 - 1)), sd_, sd_, H', ⟨by have := HJ6.out; have := HK2.out; omega⟩, ⟨by (with_reducible repeat (first | apply Kd.R_alloc | apply Kd.R_drewN | apply Kd.R_drew)); exact HO_12.out⟩, ⟨by repeat (first | (with_reducible first | exact HB.out | apply below_alloc | apply pw_below_drewN | apply below_drew1) | exact HB.out)⟩⟩
             ·rw [if_neg c32] at H
              exact absurd H (by simp)
            ·rw [if_neg c30] at H
             exact absurd H (by simp)
           ·rw [if_neg c29] at H
            exact absurd H (by simp)
          ·rw [if_neg c28] at H
           exact absurd H (by simp)
         ·replace c27 := Bool.eq_false_iff.mpr c27
          subst c27
          have H1 : (if 0 ≤ x14_2 then (if x14_2 < (l1.length : Int) then (if rdOf false l1 x14_2 = true then (if x14_2 < (x12_2.length : Int) then (if x14_2 < (l3.length : Int) then ((some (x12_2.set (x14_2 : Int).toNat (wrap64 ((rd x12_2 x14_2) + (wrap64 (rd l3 x14_2)))) : List Int)).bind fun y518 => (if x14_2 < (l0.length : Int) then ((cohousingref28_At.f k2 l0 ((rd_T44 l0 x14_2).f1)).bind fun t520 => (if t520 ≥ 0 then (if 0 ≤ t520 then (if t520 < (x12_2.length : Int) then (cohousinglaw30_LeakTruth.l0 k2 l0 l1 l2 l3 l4 t502 (y518.set (t520 : Int).toNat (wrap64 ((rd y518 t520) + (rd y518 x14_2)))) (wrap64 (x13_2 + 1)) (wrap64 (x14_2 - 1))) else (none)) else (none)) else (cohousinglaw30_LeakTruth.l0 k2 l0 l1 l2 l3 l4 t502 y518 (wrap64 (x13_2 + 1)) (wrap64 (x14_2 - 1))))) else (none))) else (none)) else (none)) else (if x14_2 < (x12_2.length : Int) then (if x14_2 < (l3.length : Int) then (if x14_2 < (l0.length : Int) then (if (wrap64 (((rd_T44 l0 x14_2).f2) + 1)) = 0 then (none) else ((some (x12_2.set (x14_2 : Int).toNat (wrap64 ((rd x12_2 x14_2) + (Int.tmod (wrap64 (rd l3 x14_2)) (wrap64 (((rd_T44 l0 x14_2).f2) + 1))))) : List Int)).bind fun y527 => ((cohousingref28_At.f k2 l0 ((rd_T44 l0 x14_2).f1)).bind fun t529 => (if t529 ≥ 0 then (if 0 ≤ t529 then (if t529 < (x12_2.length : Int) then (cohousinglaw30_LeakTruth.l0 k2 l0 l1 l2 l3 l4 t502 (y527.set (t529 : Int).toNat (wrap64 ((rd y527 t529) + (rd y527 x14_2)))) x13_2 (wrap64 (x14_2 - 1))) else (none)) else (none)) else (cohousinglaw30_LeakTruth.l0 k2 l0 l1 l2 l3 l4 t502 y527 x13_2 (wrap64 (x14_2 - 1))))))) else (none)) else (none)) else (none))) else (none)) else (none)) = some r := by rw [if_neg (show ¬ (false = true) by decide)] at H; exact H
          clear H
          have H := H1
          clear H1
          by_cases c46 : 0 ≤ x14_2
          ·rw [if_pos c46] at H
           have c46b0 : decide (0 ≤ x14_2) = true := decide_eq_true c46
           clear c46
           by_cases c47 : x14_2 < (l1.length : Int)
           ·rw [if_pos c47] at H
            have c47b0 : decide (x14_2 < (l1.length : Int)) = true := decide_eq_true c47
            clear c47
            obtain ⟨bq48, hbq48⟩ : ∃ b_ : Bool, b_ = (rdOf false l1 x14_2) := ⟨_, rfl⟩
            replace H : (if bq48 = true then (if x14_2 < (x12_2.length : Int) then (if x14_2 < (l3.length : Int) then ((some (x12_2.set (x14_2 : Int).toNat (wrap64 ((rd x12_2 x14_2) + (wrap64 (rd l3 x14_2)))) : List Int)).bind fun y518 => (if x14_2 < (l0.length : Int) then ((cohousingref28_At.f k2 l0 ((rd_T44 l0 x14_2).f1)).bind fun t520 => (if t520 ≥ 0 then (if 0 ≤ t520 then (if t520 < (x12_2.length : Int) then (cohousinglaw30_LeakTruth.l0 k2 l0 l1 l2 l3 l4 t502 (y518.set (t520 : Int).toNat (wrap64 ((rd y518 t520) + (rd y518 x14_2)))) (wrap64 (x13_2 + 1)) (wrap64 (x14_2 - 1))) else (none)) else (none)) else (cohousinglaw30_LeakTruth.l0 k2 l0 l1 l2 l3 l4 t502 y518 (wrap64 (x13_2 + 1)) (wrap64 (x14_2 - 1))))) else (none))) else (none)) else (none)) else (if x14_2 < (x12_2.length : Int) then (if x14_2 < (l3.length : Int) then (if x14_2 < (l0.length : Int) then (if (wrap64 (((rd_T44 l0 x14_2).f2) + 1)) = 0 then (none) else ((some (x12_2.set (x14_2 : Int).toNat (wrap64 ((rd x12_2 x14_2) + (Int.tmod (wrap64 (rd l3 x14_2)) (wrap64 (((rd_T44 l0 x14_2).f2) + 1))))) : List Int)).bind fun y527 => ((cohousingref28_At.f k2 l0 ((rd_T44 l0 x14_2).f1)).bind fun t529 => (if t529 ≥ 0 then (if 0 ≤ t529 then (if t529 < (x12_2.length : Int) then (cohousinglaw30_LeakTruth.l0 k2 l0 l1 l2 l3 l4 t502 (y527.set (t529 : Int).toNat (wrap64 ((rd y527 t529) + (rd y527 x14_2)))) x13_2 (wrap64 (x14_2 - 1))) else (none)) else (none)) else (cohousinglaw30_LeakTruth.l0 k2 l0 l1 l2 l3 l4 t502 y527 x13_2 (wrap64 (x14_2 - 1))))))) else (none)) else (none)) else (none))) = some r := by rw [← hbq48] at H; exact H
            have Nbq48 := Aside0.mk hbq48
            clear hbq48
            by_cases c49 : bq48 = true
            ·subst c49
             have H1 : (if x14_2 < (x12_2.length : Int) then (if x14_2 < (l3.length : Int) then ((some (x12_2.set (x14_2 : Int).toNat (wrap64 ((rd x12_2 x14_2) + (wrap64 (rd l3 x14_2)))) : List Int)).bind fun y518 => (if x14_2 < (l0.length : Int) then ((cohousingref28_At.f k2 l0 ((rd_T44 l0 x14_2).f1)).bind fun t520 => (if t520 ≥ 0 then (if 0 ≤ t520 then (if t520 < (x12_2.length : Int) then (cohousinglaw30_LeakTruth.l0 k2 l0 l1 l2 l3 l4 t502 (y518.set (t520 : Int).toNat (wrap64 ((rd y518 t520) + (rd y518 x14_2)))) (wrap64 (x13_2 + 1)) (wrap64 (x14_2 - 1))) else (none)) else (none)) else (cohousinglaw30_LeakTruth.l0 k2 l0 l1 l2 l3 l4 t502 y518 (wrap64 (x13_2 + 1)) (wrap64 (x14_2 - 1))))) else (none))) else (none)) else (none)) = some r := by rw [if_pos rfl] at H; exact H
             clear H
             have H := H1
             clear H1
             by_cases c50 : x14_2 < (x12_2.length : Int)
             ·rw [if_pos c50] at H
              have c50b0 : decide (x14_2 < (x12_2.length : Int)) = true := decide_eq_true c50
              clear c50
              by_cases c51 : x14_2 < (l3.length : Int)
              ·rw [if_pos c51] at H
               have c51b0 : decide (x14_2 < (l3.length : Int)) = true := decide_eq_true c51
               clear c51
               obtain ⟨y518, hy518⟩ : ∃ y_ : List Int, y_ = (x12_2.set (x14_2 : Int).toNat (wrap64 ((rd x12_2 x14_2) + (wrap64 (rd l3 x14_2))))) := ⟨_, rfl⟩
               replace H : (if x14_2 < (l0.length : Int) then ((cohousingref28_At.f k2 l0 ((rd_T44 l0 x14_2).f1)).bind fun t520 => (if t520 ≥ 0 then (if 0 ≤ t520 then (if t520 < (x12_2.length : Int) then (cohousinglaw30_LeakTruth.l0 k2 l0 l1 l2 l3 l4 t502 (y518.set (t520 : Int).toNat (wrap64 ((rd y518 t520) + (rd y518 x14_2)))) (wrap64 (x13_2 + 1)) (wrap64 (x14_2 - 1))) else (none)) else (none)) else (cohousinglaw30_LeakTruth.l0 k2 l0 l1 l2 l3 l4 t502 y518 (wrap64 (x13_2 + 1)) (wrap64 (x14_2 - 1))))) else (none)) = some r := by first | (rw [hy518]; with_reducible exact H) | (have H2_ := (Option.bind_some _ _).symm.trans H; rw [hy518]; with_reducible exact H2_) | (have H2_ := (Option.bind_some _ _).symm.trans H; with_reducible exact H2_) | with_reducible exact H | (rw [hy518]; exact H) | exact H
               have Ny518 := Aside0.mk hy518
               clear hy518
               by_cases c53 : x14_2 < (l0.length : Int)
               ·rw [if_pos c53] at H
                have c53b0 : decide (x14_2 < (l0.length : Int)) = true := decide_eq_true c53
                clear c53
                replace H := Option.bind_eq_some_iff.mp H
                obtain ⟨t520, A540, H⟩ := H
                replace H : (if t520 ≥ 0 then (if 0 ≤ t520 then (if t520 < (x12_2.length : Int) then (cohousinglaw30_LeakTruth.l0 k2 l0 l1 l2 l3 l4 t502 (y518.set (t520 : Int).toNat (wrap64 ((rd y518 t520) + (rd y518 x14_2)))) (wrap64 (x13_2 + 1)) (wrap64 (x14_2 - 1))) else (none)) else (none)) else (cohousinglaw30_LeakTruth.l0 k2 l0 l1 l2 l3 l4 t502 y518 (wrap64 (x13_2 + 1)) (wrap64 (x14_2 - 1)))) = some r := H
                have A54 := Aside0.mk A540
                clear A540
                by_cases c55 : t520 ≥ 0
                ·rw [if_pos c55] at H
                 have c55b0 : decide (0 ≤ t520) = true := decide_eq_true c55
                 clear c55
                 by_cases c56 : 0 ≤ t520
                 ·rw [if_pos c56] at H
                  have c56b0 : decide (0 ≤ t520) = true := decide_eq_true c56
                  clear c56
                  by_cases c57 : t520 < (x12_2.length : Int)
                  ·rw [if_pos c57] at H
                   have c57b0 : decide (t520 < (x12_2.length : Int)) = true := decide_eq_true c57
                   clear c57
                   obtain ⟨y523, hy523⟩ : ∃ y_ : List Int, y_ = (y518.set (t520 : Int).toNat (wrap64 ((rd y518 t520) + (rd y518 x14_2)))) := ⟨_, rfl⟩
                   replace H : (cohousinglaw30_LeakTruth.l0 k2 l0 l1 l2 l3 l4 t502 y523 (wrap64 (x13_2 + 1)) (wrap64 (x14_2 - 1))) = some r := by first | (rw [hy523]; with_reducible exact H) | (have H2_ := (Option.bind_some _ _).symm.trans H; rw [hy523]; with_reducible exact H2_) | (have H2_ := (Option.bind_some _ _).symm.trans H; with_reducible exact H2_) | with_reducible exact H | (rw [hy523]; exact H) | exact H
                   have Ny523 := Aside0.mk hy523
                   clear hy523
                   have H' := Aside0.mk H
                   clear H
                   try go_wp2_with (first | ((with_reducible refine gate_callee (f := 24) rfl ?_); refine gl_ (some 72) Try.func24 #[.slice A0 l0.length c0, .int .i64 x14_2] ?_; (with_reducible refine (cohousingref28_Leaf.calls k2 _ _ l0 x14_2 false _ ?side1 ?side2 A26.out).mono ?_); (case side1 => exact cc_ ((Kd.C_below HR0.out HB.out))); (case side2 => exact HC0.out); rintro e w59 ⟨rfl, hb⟩; refine ⟨_, rfl, ?_⟩; have n0_ := Aside0.mk (Kd.R_below (rr_ HO_12) hb); have n1_ := Aside0.mk (below_step (bb_ HB) hb); clear HO_12; clear HB; have HO_12 := n0_; have HB := n1_; clear n0_ n1_; (try clear hb); (try clear hb2); (try clear hk); (try clear hi); have p515 : 0 ≤ (x14_2 : Int) := od_; have q515 : x14_2 < (l1.length : Int) := od_; obtain ⟨ad515, e515, hx515_0⟩ := Kd.at_bool HR1.out x14_2 p515 q515; (try rw [← Nbq48.out] at hx515_0); cases e515; replace hx515_0 := (HB.out.cell (World.block_lt_of_cell? w _ hx515_0)).trans hx515_0; replace p515 := eq_true p515; replace q515 := eq_true q515))
                   have n0_ := Aside0.mk (Kd.R_drew HO_12.out)
                   have n1_ := Aside0.mk (below_drew1 HB.out)
                   clear HO_12
                   clear HB
                   have HO_12 := n0_
                   have HB := n1_
                   clear n0_ n1_
                   obtain ⟨Ao61, co61, eo61⟩ := Kd.R_slice HO_12.out
                   (first | subst eo61 | (injection eo61 with f1_ f2_ f3_; have f4_ := f1_.symm; have f5_ := f3_.symm; clear f1_ f2_ f3_; subst f4_; subst f5_))
                   have p516 : 0 ≤ (x14_2 : Int) := od_
                   have q516 : x14_2 < (x12_2.length : Int) := od_
                   obtain ⟨ad516, e516, hx516_0⟩ := Kd.at_int (Kd.R_reads' HO_12.out).2.2 x14_2 p516 q516
                   cases e516
                   replace p516 := eq_true p516
                   replace q516 := eq_true q516
                   have p517 : 0 ≤ (x14_2 : Int) := od_
                   have q517 : x14_2 < (l3.length : Int) := od_
                   obtain ⟨ad517, e517, hx517_0⟩ := Kd.at_int HR3.out x14_2 p517 q517
                   have hw517_0 := hx517_0
                   cases e517
                   replace hx517_0 := (HB.out.cell (World.block_lt_of_cell? w _ hx517_0)).trans hx517_0
                   replace p517 := eq_true p517
                   replace q517 := eq_true q517
                   have p52 : 0 ≤ (x14_2 : Int) := od_
                   have q52 : (x14_2 : Int) < ((x12_2.length : Int) : Int) := od_
                   obtain ⟨go52, co52, eo52, gb52, gl52, cl52, HG52⟩ := Kd.R_form HO_12.out (by omega)
                   (first | cases eo52 | (injection eo52 with ea_ en_ ec_; (first | subst ea_ | (injection ea_ with ea_; subst ea_)); subst ec_; clear en_))
                   have GB52 := Aside0.mk gb52
                   have GG52 := Aside0.mk HG52
                   clear gb52 gl52 HG52
                   (first | simp only [add_plain] at hx516_0 | skip)
                   obtain ⟨hx52_0, hf52_0⟩ := Kd.R_celln 0 HO_12.out (x14_2 : Int) p52 q52
                   replace p52 := eq_true p52
                   replace q52 := eq_true q52
                   have HP62 := Kd.R_putn HO_12.out (x14_2 : Int) (wrap64 ((rd x12_2 x14_2) + (wrap64 (rd l3 x14_2))))
                   rw [← Ny518.out] at HP62
                   have HQ62 := Aside0.mk HP62
                   clear HP62
                   refine start_ (n := 12) (S := fun w' => w'.cell? ⟨go52, (x14_2).toNat, none⟩ = some (.int .i64 (rd x12_2 x14_2)) ∧ w'.cell? (ad517.add (x14_2).toNat) = some (.int .u16 (rd l3 x14_2))) (ds := [11]) #[n_, n_, n_, n_, n_, n_, n_, n_, n_, n_, n_, n_] (by kernel_rfl) rfl rfl ⟨hx516_0, ((HB.out.cell (World.block_lt_of_cell? w _ hw517_0)).trans hw517_0)⟩ (fun hHeld => ?_); refine with_tabW cohousinglaw30_LeakTruth.tab12 cohousinglaw30_LeakTruth.bits12 (fun HT_ HW_ => ?_)
                   generalize w59.drew = w60 at HO_12 HB GG52 HQ62 hf52_0 hx516_0 hx517_0 hx52_0 hHeld ⊢
                   refine pu_ 0 85 (w_ 12 1) rfl HT_ ?_
                   refine pu_ 1 86 (w_ 12 3) rfl HT_ ?_
                   refine pu_ 2 87 (w_ 12 7) rfl HT_ ?_
                   refine pu_ 4 89 (w_ 12 23) rfl HT_ ?_
                   refine pu_ 5 90 (w_ 12 55) rfl HT_ ?_
                   refine pu_ 6 91 (w_ 12 119) rfl HT_ ?_
                   refine ta_ 3 88 (w_ 12 127) rfl HT_ HW_ hHeld (by rintro w' ⟨s0, s1⟩; go_simp; with_reducible rfl) ?_
                   refine ta_ 7 92 (w_ 12 255) rfl HT_ HW_ hHeld (by rintro w' ⟨s0, s1⟩; go_simp; with_reducible rfl) ?_
                   refine pu_ 8 93 (w_ 12 511) rfl HT_ ?_
                   refine pu_ 9 94 (w_ 12 1023) rfl HT_ ?_
                   refine pu_ 10 95 (w_ 12 2047) rfl HT_ ?_
                   refine last_ (i := 11) (N := none) (w_ 12 4095) rfl rfl (one_of HT_.out (by kernel_rfl)) (by decide) (fun K hK => ?_)
                   refine skip_ (w1 := ?_) (by rfl) rfl ?_ ?_
                   rotate_left
                   ·go_simp
                    rfl
                   refine hK.out _ _ ?_
                   clear hK K
                   refine done_ (done_of HT_.out (by kernel_rfl)) ?_
                   have p519 : 0 ≤ (x14_2 : Int) := od_
                   have q519 : x14_2 < (l0.length : Int) := od_
                   obtain ⟨ad519, e519, hx519_0, hx519_1, hx519_2⟩ := at_T44 HR0.out x14_2 p519 q519
                   cases e519
                   have hn519_0 : ad519.block ≠ go52 := Nat.ne_of_lt (Nat.lt_of_lt_of_le (by have := World.block_lt_of_cell? _ _ hx519_0; first | rwa [add_block] at this | exact this) GB52.out)
                   replace hx519_0 := (HB.out.cell (World.block_lt_of_cell? w _ hx519_0)).trans hx519_0
                   replace hx519_1 := (HB.out.cell (World.block_lt_of_cell? w _ hx519_1)).trans hx519_1
                   replace hx519_2 := (HB.out.cell (World.block_lt_of_cell? w _ hx519_2)).trans hx519_2
                   replace hx519_0 := (cell_far (p := ⟨go52, (x14_2 : Int).toNat, none⟩) (by first | (rw [add_block]; exact hn519_0) | (show (Addr.add _ _).block ≠ _; rw [add_block]; exact hn519_0) | exact hn519_0) (.int .i64 (wrap64 ((rd x12_2 x14_2) + (wrap64 (rd l3 x14_2)))))).trans hx519_0
                   replace hx519_1 := (cell_far (p := ⟨go52, (x14_2 : Int).toNat, none⟩) (by first | (rw [add_block]; exact hn519_0) | (show (Addr.add _ _).block ≠ _; rw [add_block]; exact hn519_0) | exact hn519_0) (.int .i64 (wrap64 ((rd x12_2 x14_2) + (wrap64 (rd l3 x14_2)))))).trans hx519_1
                   replace hx519_2 := (cell_far (p := ⟨go52, (x14_2 : Int).toNat, none⟩) (by first | (rw [add_block]; exact hn519_0) | (show (Addr.add _ _).block ≠ _; rw [add_block]; exact hn519_0) | exact hn519_0) (.int .i64 (wrap64 ((rd x12_2 x14_2) + (wrap64 (rd l3 x14_2)))))).trans hx519_2
                   clear hn519_0
                   replace p519 := eq_true p519
                   replace q519 := eq_true q519
                   try go_wp2_with (first | ((with_reducible refine gate_callee (f := 25) rfl ?_); refine gl_ (some 122) Try.func25 #[.slice (some ad519) l0.length c0, .int .i64 ((rd_T44 l0 x14_2).f1)] ?_; (with_reducible refine (cohousingref28_At.calls k2 _ _ l0 ((rd_T44 l0 x14_2).f1) t520 _ ?side1 ?side2 A54.out).mono ?_); (case side1 => exact Kd.C_below HR0.out (bs_ HB GB52.out)); (case side2 => exact HC0.out); rintro e w' ⟨rfl, ⟨nd, rfl⟩⟩; refine ⟨_, rfl, ?_⟩))
                   have n0_ : Aside0 (Kd.R (Kd.int .i64) 3 (w60.setCell ⟨go52, (x14_2 : Int).toNat, none⟩ (.int .i64 (wrap64 ((rd x12_2 x14_2) + (wrap64 (rd l3 x14_2)))))) w.heap.size (fun _ => True) (.slice (some ⟨go52, 0, none⟩) x12_2.length co61) y518) := ⟨by (with_reducible repeat (first | apply Kd.R_alloc | apply Kd.R_drewN | apply Kd.R_drew)); exact HQ62.out⟩
                   have n1_ : Aside0 (Below w.heap.size w (w60.setCell ⟨go52, (x14_2 : Int).toNat, none⟩ (.int .i64 (wrap64 ((rd x12_2 x14_2) + (wrap64 (rd l3 x14_2))))))) := ⟨by repeat (first | (with_reducible first | exact HB.out | apply below_alloc | apply pw_below_drewN | apply below_drew1 | refine below_set ?_ GB52.out) | exact HB.out)⟩
                   (try clear HO_12)
                   (try clear HB)
                   generalize (w60.setCell ⟨go52, (x14_2 : Int).toNat, none⟩ (.int .i64 (wrap64 ((rd x12_2 x14_2) + (wrap64 (rd l3 x14_2)))))) = w63 at n0_ n1_ ⊢
                   have HO_12 := n0_
                   have HB := n1_
                   clear n0_ n1_
                   (try (rw [drewN_self w63]; generalize hq_ : World.drewN w63 _ = w63; have n0_ : Aside0 (Kd.R (Kd.int .i64) 3 w63 w.heap.size (fun _ => True) (.slice (some ⟨go52, 0, none⟩) x12_2.length co61) y518) := ⟨by rw [← hq_]; exact (rr_ HO_12)⟩; have n1_ : Aside0 (Below w.heap.size w w63) := ⟨by rw [← hq_]; exact (bb_ HB)⟩; clear HO_12 HB hq_; have HO_12 := n0_; have HB := n1_; clear n0_ n1_))
                   have n0_ := Aside0.mk (Kd.R_drew HO_12.out)
                   have n1_ := Aside0.mk (below_drew1 HB.out)
                   clear HO_12
                   clear HB
                   have HO_12 := n0_
                   have HB := n1_
                   clear n0_ n1_
                   have p521 : 0 ≤ (t520 : Int) := od_
                   have q521 : t520 < (y518.length : Int) := (by have h_ : (t520 : Int) < ((x12_2.length : Int) : Int) := od_; first | (have e_ := (Kd.R_reads' HO_12.out).1; omega) | simpa only [Ny518.out, List.length_set] using h_)
                   have ql521 : ((t520 : Int) < ((x12_2.length : Int) : Int)) = True := eq_true (od_)
                   obtain ⟨ad521, e521, hx521_0⟩ := Kd.at_int (Kd.R_reads' HO_12.out).2.2 t520 p521 q521
                   obtain rfl : (⟨go52, 0, none⟩ : Addr) = ad521 := (by injection e521)
                   (first | simp only [add_plain] at hx521_0 | simp only [add_at] at hx521_0 | simp only [Addr.add, Nat.zero_add] at hx521_0 | skip)
                   replace p521 := eq_true p521
                   replace q521 := eq_true q521
                   have p522 : 0 ≤ (x14_2 : Int) := od_
                   have q522 : x14_2 < (y518.length : Int) := (by have h_ : (x14_2 : Int) < ((x12_2.length : Int) : Int) := od_; first | (have e_ := (Kd.R_reads' HO_12.out).1; omega) | simpa only [Ny518.out, List.length_set] using h_)
                   have ql522 : ((x14_2 : Int) < ((x12_2.length : Int) : Int)) = True := eq_true (od_)
                   obtain ⟨ad522, e522, hx522_0⟩ := Kd.at_int (Kd.R_reads' HO_12.out).2.2 x14_2 p522 q522
                   obtain rfl : (⟨go52, 0, none⟩ : Addr) = ad522 := (by injection e522)
                   (first | simp only [add_plain] at hx522_0 | simp only [add_at] at hx522_0 | simp only [Addr.add, Nat.zero_add] at hx522_0 | skip)
                   replace p522 := eq_true p522
                   replace q522 := eq_true q522
                   have p58 : 0 ≤ (t520 : Int) := od_
                   have q58 : (t520 : Int) < ((x12_2.length : Int) : Int) := od_
                   obtain ⟨hx58_0, hf58_0⟩ := Kd.R_celln 0 HO_12.out (t520 : Int) p58 q58
                   replace p58 := eq_true p58
                   replace q58 := eq_true q58
                   have HP65 := Kd.R_putn HO_12.out (t520 : Int) (wrap64 ((rd y518 t520) + (rd y518 x14_2)))
                   rw [← Ny523.out] at HP65
                   have HQ65 := Aside0.mk HP65
                   clear HP65
                   refine start_ (n := 11) (S := fun w' => w'.cell? ⟨go52, (t520).toNat, none⟩ = some (.int .i64 (rd y518 t520)) ∧ w'.cell? ⟨go52, (x14_2).toNat, none⟩ = some (.int .i64 (rd y518 x14_2))) (ds := [10]) #[n_, n_, n_, n_, n_, n_, n_, n_, n_, n_, n_] (by kernel_rfl) rfl rfl ⟨hx521_0, hx522_0⟩ (fun hHeld => ?_); refine with_tabW cohousinglaw30_LeakTruth.tab17 cohousinglaw30_LeakTruth.bits17 (fun HT_ HW_ => ?_)
                   generalize w63.drew = w64 at HO_12 HB HQ62 HQ65 hf58_0 hx521_0 hx522_0 hx58_0 hHeld ⊢
                   refine pu_ 0 125 (w_ 11 1) rfl HT_ ?_
                   refine pu_ 1 126 (w_ 11 3) rfl HT_ ?_
                   refine pu_ 2 127 (w_ 11 7) rfl HT_ ?_
                   refine pu_ 4 129 (w_ 11 23) rfl HT_ ?_
                   refine pu_ 5 130 (w_ 11 55) rfl HT_ ?_
                   refine pu_ 6 131 (w_ 11 119) rfl HT_ ?_
                   refine ta_ 3 128 (w_ 11 127) rfl HT_ HW_ hHeld (by rintro w' ⟨s0, s1⟩; go_simp; with_reducible rfl) ?_
                   refine ta_ 7 132 (w_ 11 255) rfl HT_ HW_ hHeld (by rintro w' ⟨s0, s1⟩; go_simp; with_reducible rfl) ?_
                   refine pu_ 8 133 (w_ 11 511) rfl HT_ ?_
                   refine pu_ 9 134 (w_ 11 1023) rfl HT_ ?_
                   refine last_ (i := 10) (N := none) (w_ 11 2047) rfl rfl (one_of HT_.out (by kernel_rfl)) (by decide) (fun K hK => ?_)
                   refine skip_ (w1 := ?_) (by rfl) rfl ?_ ?_
                   rotate_left
                   ·go_simp
                    rfl
                   refine hK.out _ _ ?_
                   clear hK K
                   refine done_ (done_of HT_.out (by kernel_rfl)) ?_
                   try go_wp2
                   go_roundg k2
                   case measure => have := HJ6.out; have := HK2.out; omega
                   case rel => exact ⟨(y523), (wrap64 (x13_2 + 1)), (wrap64 (x14_2 - 1)), sd_, sd_, H', ⟨by have := HJ6.out; have := HK2.out; omega⟩, ⟨by (with_reducible repeat (first | apply Kd.R_alloc | apply Kd.R_drewN | apply Kd.R_drew)); exact HQ65.out⟩, ⟨by repeat (first | (with_reducible first | exact HB.out | apply below_alloc | apply pw_below_drewN | apply below_drew1 | refine below_set ?_ GB52.out) | exact HB.out)⟩⟩
                  ·rw [if_neg c57] at H
                   exact absurd H (by simp)
                 ·rw [if_neg c56] at H
                  exact absurd H (by simp)
                ·rw [if_neg c55] at H
                 have c55b0 : decide (0 ≤ t520) = false := decide_eq_false c55
                 clear c55
                 have H' := Aside0.mk H
                 clear H
                 try go_wp2_with (first | ((with_reducible refine gate_callee (f := 24) rfl ?_); refine gl_ (some 72) Try.func24 #[.slice A0 l0.length c0, .int .i64 x14_2] ?_; (with_reducible refine (cohousingref28_Leaf.calls k2 _ _ l0 x14_2 false _ ?side1 ?side2 A26.out).mono ?_); (case side1 => exact cc_ ((Kd.C_below HR0.out HB.out))); (case side2 => exact HC0.out); rintro e w66 ⟨rfl, hb⟩; refine ⟨_, rfl, ?_⟩; have n0_ := Aside0.mk (Kd.R_below (rr_ HO_12) hb); have n1_ := Aside0.mk (below_step (bb_ HB) hb); clear HO_12; clear HB; have HO_12 := n0_; have HB := n1_; clear n0_ n1_; (try clear hb); (try clear hb2); (try clear hk); (try clear hi); have p515 : 0 ≤ (x14_2 : Int) := od_; have q515 : x14_2 < (l1.length : Int) := od_; obtain ⟨ad515, e515, hx515_0⟩ := Kd.at_bool HR1.out x14_2 p515 q515; (try rw [← Nbq48.out] at hx515_0); cases e515; replace hx515_0 := (HB.out.cell (World.block_lt_of_cell? w _ hx515_0)).trans hx515_0; replace p515 := eq_true p515; replace q515 := eq_true q515))
                 have n0_ := Aside0.mk (Kd.R_drew HO_12.out)
                 have n1_ := Aside0.mk (below_drew1 HB.out)
                 clear HO_12
                 clear HB
                 have HO_12 := n0_
                 have HB := n1_
                 clear n0_ n1_
                 obtain ⟨Ao68, co68, eo68⟩ := Kd.R_slice HO_12.out
                 (first | subst eo68 | (injection eo68 with f1_ f2_ f3_; have f4_ := f1_.symm; have f5_ := f3_.symm; clear f1_ f2_ f3_; subst f4_; subst f5_))
                 have p516 : 0 ≤ (x14_2 : Int) := od_
                 have q516 : x14_2 < (x12_2.length : Int) := od_
                 obtain ⟨ad516, e516, hx516_0⟩ := Kd.at_int (Kd.R_reads' HO_12.out).2.2 x14_2 p516 q516
                 cases e516
                 replace p516 := eq_true p516
                 replace q516 := eq_true q516
                 have p517 : 0 ≤ (x14_2 : Int) := od_
                 have q517 : x14_2 < (l3.length : Int) := od_
                 obtain ⟨ad517, e517, hx517_0⟩ := Kd.at_int HR3.out x14_2 p517 q517
                 have hw517_0 := hx517_0
                 cases e517
                 replace hx517_0 := (HB.out.cell (World.block_lt_of_cell? w _ hx517_0)).trans hx517_0
                 replace p517 := eq_true p517
                 replace q517 := eq_true q517
                 have p52 : 0 ≤ (x14_2 : Int) := od_
                 have q52 : (x14_2 : Int) < ((x12_2.length : Int) : Int) := od_
                 obtain ⟨go52, co52, eo52, gb52, gl52, cl52, HG52⟩ := Kd.R_form HO_12.out (by omega)
                 (first | cases eo52 | (injection eo52 with ea_ en_ ec_; (first | subst ea_ | (injection ea_ with ea_; subst ea_)); subst ec_; clear en_))
                 have GB52 := Aside0.mk gb52
                 have GG52 := Aside0.mk HG52
                 clear gb52 gl52 HG52
                 (first | simp only [add_plain] at hx516_0 | skip)
                 obtain ⟨hx52_0, hf52_0⟩ := Kd.R_celln 0 HO_12.out (x14_2 : Int) p52 q52
                 replace p52 := eq_true p52
                 replace q52 := eq_true q52
                 have HP69 := Kd.R_putn HO_12.out (x14_2 : Int) (wrap64 ((rd x12_2 x14_2) + (wrap64 (rd l3 x14_2))))
                 rw [← Ny518.out] at HP69
                 have HQ69 := Aside0.mk HP69
                 clear HP69
                 refine start_ (n := 12) (S := fun w' => w'.cell? ⟨go52, (x14_2).toNat, none⟩ = some (.int .i64 (rd x12_2 x14_2)) ∧ w'.cell? (ad517.add (x14_2).toNat) = some (.int .u16 (rd l3 x14_2))) (ds := [11]) #[n_, n_, n_, n_, n_, n_, n_, n_, n_, n_, n_, n_] (by kernel_rfl) rfl rfl ⟨hx516_0, ((HB.out.cell (World.block_lt_of_cell? w _ hw517_0)).trans hw517_0)⟩ (fun hHeld => ?_); refine with_tabW cohousinglaw30_LeakTruth.tab12 cohousinglaw30_LeakTruth.bits12 (fun HT_ HW_ => ?_)
                 generalize w66.drew = w67 at HO_12 HB GG52 HQ69 hf52_0 hx516_0 hx517_0 hx52_0 hHeld ⊢
                 refine pu_ 0 85 (w_ 12 1) rfl HT_ ?_
                 refine pu_ 1 86 (w_ 12 3) rfl HT_ ?_
                 refine pu_ 2 87 (w_ 12 7) rfl HT_ ?_
                 refine pu_ 4 89 (w_ 12 23) rfl HT_ ?_
                 refine pu_ 5 90 (w_ 12 55) rfl HT_ ?_
                 refine pu_ 6 91 (w_ 12 119) rfl HT_ ?_
                 refine ta_ 3 88 (w_ 12 127) rfl HT_ HW_ hHeld (by rintro w' ⟨s0, s1⟩; go_simp; with_reducible rfl) ?_
                 refine ta_ 7 92 (w_ 12 255) rfl HT_ HW_ hHeld (by rintro w' ⟨s0, s1⟩; go_simp; with_reducible rfl) ?_
                 refine pu_ 8 93 (w_ 12 511) rfl HT_ ?_
                 refine pu_ 9 94 (w_ 12 1023) rfl HT_ ?_
                 refine pu_ 10 95 (w_ 12 2047) rfl HT_ ?_
                 refine last_ (i := 11) (N := none) (w_ 12 4095) rfl rfl (one_of HT_.out (by kernel_rfl)) (by decide) (fun K hK => ?_)
                 refine skip_ (w1 := ?_) (by rfl) rfl ?_ ?_
                 rotate_left
                 ·go_simp
                  rfl
                 refine hK.out _ _ ?_
                 clear hK K
                 refine done_ (done_of HT_.out (by kernel_rfl)) ?_
                 have p519 : 0 ≤ (x14_2 : Int) := od_
                 have q519 : x14_2 < (l0.length : Int) := od_
                 obtain ⟨ad519, e519, hx519_0, hx519_1, hx519_2⟩ := at_T44 HR0.out x14_2 p519 q519
                 cases e519
                 have hn519_0 : ad519.block ≠ go52 := Nat.ne_of_lt (Nat.lt_of_lt_of_le (by have := World.block_lt_of_cell? _ _ hx519_0; first | rwa [add_block] at this | exact this) GB52.out)
                 replace hx519_0 := (HB.out.cell (World.block_lt_of_cell? w _ hx519_0)).trans hx519_0
                 replace hx519_1 := (HB.out.cell (World.block_lt_of_cell? w _ hx519_1)).trans hx519_1
                 replace hx519_2 := (HB.out.cell (World.block_lt_of_cell? w _ hx519_2)).trans hx519_2
                 replace hx519_0 := (cell_far (p := ⟨go52, (x14_2 : Int).toNat, none⟩) (by first | (rw [add_block]; exact hn519_0) | (show (Addr.add _ _).block ≠ _; rw [add_block]; exact hn519_0) | exact hn519_0) (.int .i64 (wrap64 ((rd x12_2 x14_2) + (wrap64 (rd l3 x14_2)))))).trans hx519_0
                 replace hx519_1 := (cell_far (p := ⟨go52, (x14_2 : Int).toNat, none⟩) (by first | (rw [add_block]; exact hn519_0) | (show (Addr.add _ _).block ≠ _; rw [add_block]; exact hn519_0) | exact hn519_0) (.int .i64 (wrap64 ((rd x12_2 x14_2) + (wrap64 (rd l3 x14_2)))))).trans hx519_1
                 replace hx519_2 := (cell_far (p := ⟨go52, (x14_2 : Int).toNat, none⟩) (by first | (rw [add_block]; exact hn519_0) | (show (Addr.add _ _).block ≠ _; rw [add_block]; exact hn519_0) | exact hn519_0) (.int .i64 (wrap64 ((rd x12_2 x14_2) + (wrap64 (rd l3 x14_2)))))).trans hx519_2
                 clear hn519_0
                 replace p519 := eq_true p519
                 replace q519 := eq_true q519
                 try go_wp2_with (first | ((with_reducible refine gate_callee (f := 25) rfl ?_); refine gl_ (some 122) Try.func25 #[.slice (some ad519) l0.length c0, .int .i64 ((rd_T44 l0 x14_2).f1)] ?_; (with_reducible refine (cohousingref28_At.calls k2 _ _ l0 ((rd_T44 l0 x14_2).f1) t520 _ ?side1 ?side2 A54.out).mono ?_); (case side1 => exact Kd.C_below HR0.out (bs_ HB GB52.out)); (case side2 => exact HC0.out); rintro e w' ⟨rfl, ⟨nd, rfl⟩⟩; refine ⟨_, rfl, ?_⟩))
                 go_roundg k2
                 case measure => have := HJ6.out; have := HK2.out; omega
                 case rel => exact ⟨(y518), (wrap64 (x13_2 + 1)), (wrap64 (x14_2 - 1)), sd_, sd_, H', ⟨by have := HJ6.out; have := HK2.out; omega⟩, ⟨by (with_reducible repeat (first | apply Kd.R_alloc | apply Kd.R_drewN | apply Kd.R_drew)); exact HQ69.out⟩, ⟨by repeat (first | (with_reducible first | exact HB.out | apply below_alloc | apply pw_below_drewN | apply below_drew1 | refine below_set ?_ GB52.out) | exact HB.out)⟩⟩
               ·rw [if_neg c53] at H
                exact absurd H (by simp)
              ·rw [if_neg c51] at H
               exact absurd H (by simp)
             ·rw [if_neg c50] at H
              exact absurd H (by simp)
            ·replace c49 := Bool.eq_false_iff.mpr c49
             subst c49
             have H1 : (if x14_2 < (x12_2.length : Int) then (if x14_2 < (l3.length : Int) then (if x14_2 < (l0.length : Int) then (if (wrap64 (((rd_T44 l0 x14_2).f2) + 1)) = 0 then (none) else ((some (x12_2.set (x14_2 : Int).toNat (wrap64 ((rd x12_2 x14_2) + (Int.tmod (wrap64 (rd l3 x14_2)) (wrap64 (((rd_T44 l0 x14_2).f2) + 1))))) : List Int)).bind fun y527 => ((cohousingref28_At.f k2 l0 ((rd_T44 l0 x14_2).f1)).bind fun t529 => (if t529 ≥ 0 then (if 0 ≤ t529 then (if t529 < (x12_2.length : Int) then (cohousinglaw30_LeakTruth.l0 k2 l0 l1 l2 l3 l4 t502 (y527.set (t529 : Int).toNat (wrap64 ((rd y527 t529) + (rd y527 x14_2)))) x13_2 (wrap64 (x14_2 - 1))) else (none)) else (none)) else (cohousinglaw30_LeakTruth.l0 k2 l0 l1 l2 l3 l4 t502 y527 x13_2 (wrap64 (x14_2 - 1))))))) else (none)) else (none)) else (none)) = some r := by rw [if_neg (show ¬ (false = true) by decide)] at H; exact H
             clear H
             have H := H1
             clear H1
             by_cases c70 : x14_2 < (x12_2.length : Int)
             ·rw [if_pos c70] at H
              have c70b0 : decide (x14_2 < (x12_2.length : Int)) = true := decide_eq_true c70
              clear c70
              by_cases c71 : x14_2 < (l3.length : Int)
              ·rw [if_pos c71] at H
               have c71b0 : decide (x14_2 < (l3.length : Int)) = true := decide_eq_true c71
               clear c71
               by_cases c72 : x14_2 < (l0.length : Int)
               ·rw [if_pos c72] at H
                have c72b0 : decide (x14_2 < (l0.length : Int)) = true := decide_eq_true c72
                clear c72
                by_cases c73 : (wrap64 (((rd_T44 l0 x14_2).f2) + 1)) = 0
                ·rw [if_pos c73] at H
                 exact absurd H (by simp)
                ·rw [if_neg c73] at H
                 have c73b0 : ((wrap64 (((rd_T44 l0 x14_2).f2) + 1)) == 0) = false := beq_eq_false_iff_ne.mpr c73
                 have c73b1 : ((wrap64 (((rd_T44 l0 x14_2).f2) + 1)) != 0) = true := bne_iff_ne.mpr c73
                 obtain ⟨y527, hy527⟩ : ∃ y_ : List Int, y_ = (x12_2.set (x14_2 : Int).toNat (wrap64 ((rd x12_2 x14_2) + (Int.tmod (wrap64 (rd l3 x14_2)) (wrap64 (((rd_T44 l0 x14_2).f2) + 1)))))) := ⟨_, rfl⟩
                 replace H : ((cohousingref28_At.f k2 l0 ((rd_T44 l0 x14_2).f1)).bind fun t529 => (if t529 ≥ 0 then (if 0 ≤ t529 then (if t529 < (x12_2.length : Int) then (cohousinglaw30_LeakTruth.l0 k2 l0 l1 l2 l3 l4 t502 (y527.set (t529 : Int).toNat (wrap64 ((rd y527 t529) + (rd y527 x14_2)))) x13_2 (wrap64 (x14_2 - 1))) else (none)) else (none)) else (cohousinglaw30_LeakTruth.l0 k2 l0 l1 l2 l3 l4 t502 y527 x13_2 (wrap64 (x14_2 - 1))))) = some r := by first | (rw [hy527]; with_reducible exact H) | (have H2_ := (Option.bind_some _ _).symm.trans H; rw [hy527]; with_reducible exact H2_) | (have H2_ := (Option.bind_some _ _).symm.trans H; with_reducible exact H2_) | with_reducible exact H | (rw [hy527]; exact H) | exact H
                 have Ny527 := Aside0.mk hy527
                 clear hy527
                 replace H := Option.bind_eq_some_iff.mp H
                 obtain ⟨t529, A750, H⟩ := H
                 replace H : (if t529 ≥ 0 then (if 0 ≤ t529 then (if t529 < (x12_2.length : Int) then (cohousinglaw30_LeakTruth.l0 k2 l0 l1 l2 l3 l4 t502 (y527.set (t529 : Int).toNat (wrap64 ((rd y527 t529) + (rd y527 x14_2)))) x13_2 (wrap64 (x14_2 - 1))) else (none)) else (none)) else (cohousinglaw30_LeakTruth.l0 k2 l0 l1 l2 l3 l4 t502 y527 x13_2 (wrap64 (x14_2 - 1)))) = some r := H
                 have A75 := Aside0.mk A750
                 clear A750
                 by_cases c76 : t529 ≥ 0
                 ·rw [if_pos c76] at H
                  have c76b0 : decide (0 ≤ t529) = true := decide_eq_true c76
                  clear c76
                  by_cases c77 : 0 ≤ t529
                  ·rw [if_pos c77] at H
                   have c77b0 : decide (0 ≤ t529) = true := decide_eq_true c77
                   clear c77
                   by_cases c78 : t529 < (x12_2.length : Int)
                   ·rw [if_pos c78] at H
                    have c78b0 : decide (t529 < (x12_2.length : Int)) = true := decide_eq_true c78
                    clear c78
                    obtain ⟨y532, hy532⟩ : ∃ y_ : List Int, y_ = (y527.set (t529 : Int).toNat (wrap64 ((rd y527 t529) + (rd y527 x14_2)))) := ⟨_, rfl⟩
                    replace H : (cohousinglaw30_LeakTruth.l0 k2 l0 l1 l2 l3 l4 t502 y532 x13_2 (wrap64 (x14_2 - 1))) = some r := by first | (rw [hy532]; with_reducible exact H) | (have H2_ := (Option.bind_some _ _).symm.trans H; rw [hy532]; with_reducible exact H2_) | (have H2_ := (Option.bind_some _ _).symm.trans H; with_reducible exact H2_) | with_reducible exact H | (rw [hy532]; exact H) | exact H
                    have Ny532 := Aside0.mk hy532
                    clear hy532
                    have H' := Aside0.mk H
                    clear H
                    try go_wp2_with (first | ((with_reducible refine gate_callee (f := 24) rfl ?_); refine gl_ (some 72) Try.func24 #[.slice A0 l0.length c0, .int .i64 x14_2] ?_; (with_reducible refine (cohousingref28_Leaf.calls k2 _ _ l0 x14_2 false _ ?side1 ?side2 A26.out).mono ?_); (case side1 => exact cc_ ((Kd.C_below HR0.out HB.out))); (case side2 => exact HC0.out); rintro e w80 ⟨rfl, hb⟩; refine ⟨_, rfl, ?_⟩; have n0_ := Aside0.mk (Kd.R_below (rr_ HO_12) hb); have n1_ := Aside0.mk (below_step (bb_ HB) hb); clear HO_12; clear HB; have HO_12 := n0_; have HB := n1_; clear n0_ n1_; (try clear hb); (try clear hb2); (try clear hk); (try clear hi); have p515 : 0 ≤ (x14_2 : Int) := od_; have q515 : x14_2 < (l1.length : Int) := od_; obtain ⟨ad515, e515, hx515_0⟩ := Kd.at_bool HR1.out x14_2 p515 q515; (try rw [← Nbq48.out] at hx515_0); cases e515; replace hx515_0 := (HB.out.cell (World.block_lt_of_cell? w _ hx515_0)).trans hx515_0; replace p515 := eq_true p515; replace q515 := eq_true q515))
                    have n0_ := Aside0.mk (Kd.R_drew HO_12.out)
                    have n1_ := Aside0.mk (below_drew1 HB.out)
                    clear HO_12
                    clear HB
                    have HO_12 := n0_
                    have HB := n1_
                    clear n0_ n1_
                    obtain ⟨Ao82, co82, eo82⟩ := Kd.R_slice HO_12.out
                    (first | subst eo82 | (injection eo82 with f1_ f2_ f3_; have f4_ := f1_.symm; have f5_ := f3_.symm; clear f1_ f2_ f3_; subst f4_; subst f5_))
                    have p524 : 0 ≤ (x14_2 : Int) := od_
                    have q524 : x14_2 < (x12_2.length : Int) := od_
                    obtain ⟨ad524, e524, hx524_0⟩ := Kd.at_int (Kd.R_reads' HO_12.out).2.2 x14_2 p524 q524
                    cases e524
                    replace p524 := eq_true p524
                    replace q524 := eq_true q524
                    have p525 : 0 ≤ (x14_2 : Int) := od_
                    have q525 : x14_2 < (l3.length : Int) := od_
                    obtain ⟨ad525, e525, hx525_0⟩ := Kd.at_int HR3.out x14_2 p525 q525
                    have hw525_0 := hx525_0
                    cases e525
                    replace hx525_0 := (HB.out.cell (World.block_lt_of_cell? w _ hx525_0)).trans hx525_0
                    replace p525 := eq_true p525
                    replace q525 := eq_true q525
                    have p526 : 0 ≤ (x14_2 : Int) := od_
                    have q526 : x14_2 < (l0.length : Int) := od_
                    obtain ⟨ad526, e526, hx526_0, hx526_1, hx526_2⟩ := at_T44 HR0.out x14_2 p526 q526
                    have hw526_2 := hx526_2
                    have hw526_1 := hx526_1
                    have hw526_0 := hx526_0
                    cases e526
                    replace hx526_0 := (HB.out.cell (World.block_lt_of_cell? w _ hx526_0)).trans hx526_0
                    replace hx526_1 := (HB.out.cell (World.block_lt_of_cell? w _ hx526_1)).trans hx526_1
                    replace hx526_2 := (HB.out.cell (World.block_lt_of_cell? w _ hx526_2)).trans hx526_2
                    replace p526 := eq_true p526
                    replace q526 := eq_true q526
                    have p74 : 0 ≤ (x14_2 : Int) := od_
                    have q74 : (x14_2 : Int) < ((x12_2.length : Int) : Int) := od_
                    obtain ⟨go74, co74, eo74, gb74, gl74, cl74, HG74⟩ := Kd.R_form HO_12.out (by omega)
                    (first | cases eo74 | (injection eo74 with ea_ en_ ec_; (first | subst ea_ | (injection ea_ with ea_; subst ea_)); subst ec_; clear en_))
                    have GB74 := Aside0.mk gb74
                    have GG74 := Aside0.mk HG74
                    clear gb74 gl74 HG74
                    (first | simp only [add_plain] at hx524_0 | skip)
                    obtain ⟨hx74_0, hf74_0⟩ := Kd.R_celln 0 HO_12.out (x14_2 : Int) p74 q74
                    replace p74 := eq_true p74
                    replace q74 := eq_true q74
                    have HP83 := Kd.R_putn HO_12.out (x14_2 : Int) (wrap64 ((rd x12_2 x14_2) + (Int.tmod (wrap64 (rd l3 x14_2)) (wrap64 (((rd_T44 l0 x14_2).f2) + 1)))))
                    rw [← Ny527.out] at HP83
                    have HQ83 := Aside0.mk HP83
                    clear HP83
                    refine start_ (n := 19) (S := fun w' => w'.cell? ⟨go74, (x14_2).toNat, none⟩ = some (.int .i64 (rd x12_2 x14_2)) ∧ w'.cell? (ad525.add (x14_2).toNat) = some (.int .u16 (rd l3 x14_2)) ∧ w'.cell? (ad526.add ((x14_2).toNat * 3)) = some (.int .i64 ((rd_T44 l0 x14_2).f0)) ∧ w'.cell? ⟨(ad526.add ((x14_2).toNat * 3)).block, (ad526.add ((x14_2).toNat * 3)).off + 1, none⟩ = some (.int .i64 ((rd_T44 l0 x14_2).f1)) ∧ w'.cell? ⟨(ad526.add ((x14_2).toNat * 3)).block, (ad526.add ((x14_2).toNat * 3)).off + 2, none⟩ = some (.int .i64 ((rd_T44 l0 x14_2).f2))) (ds := [18]) #[n_, n_, n_, n_, n_, n_, n_, n_, n_, n_, n_, n_, n_, n_, n_, n_, n_, n_, n_] (by kernel_rfl) rfl rfl ⟨hx524_0, ((HB.out.cell (World.block_lt_of_cell? w _ hw525_0)).trans hw525_0), ((HB.out.cell (World.block_lt_of_cell? w _ hw526_0)).trans hw526_0), ((HB.out.cell (World.block_lt_of_cell? w _ hw526_1)).trans hw526_1), ((HB.out.cell (World.block_lt_of_cell? w _ hw526_2)).trans hw526_2)⟩ (fun hHeld => ?_); refine with_tabW cohousinglaw30_LeakTruth.tab14 cohousinglaw30_LeakTruth.bits14 (fun HT_ HW_ => ?_)
                    generalize w80.drew = w81 at HO_12 HB GG74 HQ83 hf74_0 hx524_0 hx525_0 hx526_0 hx526_1 hx526_2 hx74_0 hHeld ⊢
                    refine pu_ 0 98 (w_ 19 1) rfl HT_ ?_
                    refine pu_ 1 99 (w_ 19 3) rfl HT_ ?_
                    refine pu_ 2 100 (w_ 19 7) rfl HT_ ?_
                    refine pu_ 4 102 (w_ 19 23) rfl HT_ ?_
                    refine pu_ 5 103 (w_ 19 55) rfl HT_ ?_
                    refine pu_ 6 104 (w_ 19 119) rfl HT_ ?_
                    refine pu_ 9 107 (w_ 19 631) rfl HT_ ?_
                    refine pu_ 10 108 (w_ 19 1655) rfl HT_ ?_
                    refine pu_ 11 109 (w_ 19 3703) rfl HT_ ?_
                    refine pu_ 12 110 (w_ 19 7799) rfl HT_ ?_
                    refine ta_ 3 101 (w_ 19 7807) rfl HT_ HW_ hHeld (by rintro w' ⟨s0, s1, s2, s3, s4⟩; go_simp; with_reducible rfl) ?_
                    refine ta_ 7 105 (w_ 19 7935) rfl HT_ HW_ hHeld (by rintro w' ⟨s0, s1, s2, s3, s4⟩; go_simp; with_reducible rfl) ?_
                    refine pu_ 8 106 (w_ 19 8191) rfl HT_ ?_
                    refine ta_ 13 111 (w_ 19 16383) rfl HT_ HW_ hHeld (by rintro w' ⟨s0, s1, s2, s3, s4⟩; go_simp; with_reducible rfl) ?_
                    refine pu_ 14 112 (w_ 19 32767) rfl HT_ ?_
                    refine pu_ 15 113 (w_ 19 65535) rfl HT_ ?_
                    refine pu_ 16 114 (w_ 19 131071) rfl HT_ ?_
                    refine pu_ 17 115 (w_ 19 262143) rfl HT_ ?_
                    refine last_ (i := 18) (N := none) (w_ 19 524287) rfl rfl (one_of HT_.out (by kernel_rfl)) (by decide) (fun K hK => ?_)
                    refine skip_ (w1 := ?_) (by rfl) rfl ?_ ?_
                    rotate_left
                    ·go_simp
                     rfl
                    refine hK.out _ _ ?_
                    clear hK K
                    refine done_ (done_of HT_.out (by kernel_rfl)) ?_
                    have p528 : 0 ≤ (x14_2 : Int) := od_
                    have q528 : x14_2 < (l0.length : Int) := od_
                    obtain ⟨ad528, e528, hx528_0, hx528_1, hx528_2⟩ := at_T44 HR0.out x14_2 p528 q528
                    obtain rfl : ad526 = ad528 := (by injection e528)
                    have hn528_0 : ad526.block ≠ go74 := Nat.ne_of_lt (Nat.lt_of_lt_of_le (by have := World.block_lt_of_cell? _ _ hx528_0; first | rwa [add_block] at this | exact this) GB74.out)
                    replace hx528_0 := (HB.out.cell (World.block_lt_of_cell? w _ hx528_0)).trans hx528_0
                    replace hx528_1 := (HB.out.cell (World.block_lt_of_cell? w _ hx528_1)).trans hx528_1
                    replace hx528_2 := (HB.out.cell (World.block_lt_of_cell? w _ hx528_2)).trans hx528_2
                    replace hx528_0 := (cell_far (p := ⟨go74, (x14_2 : Int).toNat, none⟩) (by first | (rw [add_block]; exact hn528_0) | (show (Addr.add _ _).block ≠ _; rw [add_block]; exact hn528_0) | exact hn528_0) (.int .i64 (wrap64 ((rd x12_2 x14_2) + (Int.tmod (wrap64 (rd l3 x14_2)) (wrap64 (((rd_T44 l0 x14_2).f2) + 1))))))).trans hx528_0
                    replace hx528_1 := (cell_far (p := ⟨go74, (x14_2 : Int).toNat, none⟩) (by first | (rw [add_block]; exact hn528_0) | (show (Addr.add _ _).block ≠ _; rw [add_block]; exact hn528_0) | exact hn528_0) (.int .i64 (wrap64 ((rd x12_2 x14_2) + (Int.tmod (wrap64 (rd l3 x14_2)) (wrap64 (((rd_T44 l0 x14_2).f2) + 1))))))).trans hx528_1
                    replace hx528_2 := (cell_far (p := ⟨go74, (x14_2 : Int).toNat, none⟩) (by first | (rw [add_block]; exact hn528_0) | (show (Addr.add _ _).block ≠ _; rw [add_block]; exact hn528_0) | exact hn528_0) (.int .i64 (wrap64 ((rd x12_2 x14_2) + (Int.tmod (wrap64 (rd l3 x14_2)) (wrap64 (((rd_T44 l0 x14_2).f2) + 1))))))).trans hx528_2
                    clear hn528_0
                    replace p528 := eq_true p528
                    replace q528 := eq_true q528
                    try go_wp2_with (first | ((with_reducible refine gate_callee (f := 25) rfl ?_); refine gl_ (some 122) Try.func25 #[.slice (some ad526) l0.length c0, .int .i64 ((rd_T44 l0 x14_2).f1)] ?_; (with_reducible refine (cohousingref28_At.calls k2 _ _ l0 ((rd_T44 l0 x14_2).f1) t529 _ ?side1 ?side2 A75.out).mono ?_); (case side1 => exact Kd.C_below HR0.out (bs_ HB GB74.out)); (case side2 => exact HC0.out); rintro e w' ⟨rfl, ⟨nd, rfl⟩⟩; refine ⟨_, rfl, ?_⟩))
                    have n0_ : Aside0 (Kd.R (Kd.int .i64) 3 (w81.setCell ⟨go74, (x14_2 : Int).toNat, none⟩ (.int .i64 (wrap64 ((rd x12_2 x14_2) + (Int.tmod (wrap64 (rd l3 x14_2)) (wrap64 (((rd_T44 l0 x14_2).f2) + 1))))))) w.heap.size (fun _ => True) (.slice (some ⟨go74, 0, none⟩) x12_2.length co82) y527) := ⟨by (with_reducible repeat (first | apply Kd.R_alloc | apply Kd.R_drewN | apply Kd.R_drew)); exact HQ83.out⟩
                    have n1_ : Aside0 (Below w.heap.size w (w81.setCell ⟨go74, (x14_2 : Int).toNat, none⟩ (.int .i64 (wrap64 ((rd x12_2 x14_2) + (Int.tmod (wrap64 (rd l3 x14_2)) (wrap64 (((rd_T44 l0 x14_2).f2) + 1)))))))) := ⟨by repeat (first | (with_reducible first | exact HB.out | apply below_alloc | apply pw_below_drewN | apply below_drew1 | refine below_set ?_ GB74.out) | exact HB.out)⟩
                    (try clear HO_12)
                    (try clear HB)
                    generalize (w81.setCell ⟨go74, (x14_2 : Int).toNat, none⟩ (.int .i64 (wrap64 ((rd x12_2 x14_2) + (Int.tmod (wrap64 (rd l3 x14_2)) (wrap64 (((rd_T44 l0 x14_2).f2) + 1))))))) = w84 at n0_ n1_ ⊢
                    have HO_12 := n0_
                    have HB := n1_
                    clear n0_ n1_
                    (try (rw [drewN_self w84]; generalize hq_ : World.drewN w84 _ = w84; have n0_ : Aside0 (Kd.R (Kd.int .i64) 3 w84 w.heap.size (fun _ => True) (.slice (some ⟨go74, 0, none⟩) x12_2.length co82) y527) := ⟨by rw [← hq_]; exact (rr_ HO_12)⟩; have n1_ : Aside0 (Below w.heap.size w w84) := ⟨by rw [← hq_]; exact (bb_ HB)⟩; clear HO_12 HB hq_; have HO_12 := n0_; have HB := n1_; clear n0_ n1_))
                    have n0_ := Aside0.mk (Kd.R_drew HO_12.out)
                    have n1_ := Aside0.mk (below_drew1 HB.out)
                    clear HO_12
                    clear HB
                    have HO_12 := n0_
                    have HB := n1_
                    clear n0_ n1_
                    have p530 : 0 ≤ (t529 : Int) := od_
                    have q530 : t529 < (y527.length : Int) := (by have h_ : (t529 : Int) < ((x12_2.length : Int) : Int) := od_; first | (have e_ := (Kd.R_reads' HO_12.out).1; omega) | simpa only [Ny527.out, List.length_set] using h_)
                    have ql530 : ((t529 : Int) < ((x12_2.length : Int) : Int)) = True := eq_true (od_)
                    obtain ⟨ad530, e530, hx530_0⟩ := Kd.at_int (Kd.R_reads' HO_12.out).2.2 t529 p530 q530
                    obtain rfl : (⟨go74, 0, none⟩ : Addr) = ad530 := (by injection e530)
                    (first | simp only [add_plain] at hx530_0 | simp only [add_at] at hx530_0 | simp only [Addr.add, Nat.zero_add] at hx530_0 | skip)
                    replace p530 := eq_true p530
                    replace q530 := eq_true q530
                    have p531 : 0 ≤ (x14_2 : Int) := od_
                    have q531 : x14_2 < (y527.length : Int) := (by have h_ : (x14_2 : Int) < ((x12_2.length : Int) : Int) := od_; first | (have e_ := (Kd.R_reads' HO_12.out).1; omega) | simpa only [Ny527.out, List.length_set] using h_)
                    have ql531 : ((x14_2 : Int) < ((x12_2.length : Int) : Int)) = True := eq_true (od_)
                    obtain ⟨ad531, e531, hx531_0⟩ := Kd.at_int (Kd.R_reads' HO_12.out).2.2 x14_2 p531 q531
                    obtain rfl : (⟨go74, 0, none⟩ : Addr) = ad531 := (by injection e531)
                    (first | simp only [add_plain] at hx531_0 | simp only [add_at] at hx531_0 | simp only [Addr.add, Nat.zero_add] at hx531_0 | skip)
                    replace p531 := eq_true p531
                    replace q531 := eq_true q531
                    have p79 : 0 ≤ (t529 : Int) := od_
                    have q79 : (t529 : Int) < ((x12_2.length : Int) : Int) := od_
                    obtain ⟨hx79_0, hf79_0⟩ := Kd.R_celln 0 HO_12.out (t529 : Int) p79 q79
                    replace p79 := eq_true p79
                    replace q79 := eq_true q79
                    have HP86 := Kd.R_putn HO_12.out (t529 : Int) (wrap64 ((rd y527 t529) + (rd y527 x14_2)))
                    rw [← Ny532.out] at HP86
                    have HQ86 := Aside0.mk HP86
                    clear HP86
                    refine start_ (n := 11) (S := fun w' => w'.cell? ⟨go74, (t529).toNat, none⟩ = some (.int .i64 (rd y527 t529)) ∧ w'.cell? ⟨go74, (x14_2).toNat, none⟩ = some (.int .i64 (rd y527 x14_2))) (ds := [10]) #[n_, n_, n_, n_, n_, n_, n_, n_, n_, n_, n_] (by kernel_rfl) rfl rfl ⟨hx530_0, hx531_0⟩ (fun hHeld => ?_); refine with_tabW cohousinglaw30_LeakTruth.tab17 cohousinglaw30_LeakTruth.bits17 (fun HT_ HW_ => ?_)
                    generalize w84.drew = w85 at HO_12 HB HQ83 HQ86 hf79_0 hx530_0 hx531_0 hx79_0 hHeld ⊢
                    refine pu_ 0 125 (w_ 11 1) rfl HT_ ?_
                    refine pu_ 1 126 (w_ 11 3) rfl HT_ ?_
                    refine pu_ 2 127 (w_ 11 7) rfl HT_ ?_
                    refine pu_ 4 129 (w_ 11 23) rfl HT_ ?_
                    refine pu_ 5 130 (w_ 11 55) rfl HT_ ?_
                    refine pu_ 6 131 (w_ 11 119) rfl HT_ ?_
                    refine ta_ 3 128 (w_ 11 127) rfl HT_ HW_ hHeld (by rintro w' ⟨s0, s1⟩; go_simp; with_reducible rfl) ?_
                    refine ta_ 7 132 (w_ 11 255) rfl HT_ HW_ hHeld (by rintro w' ⟨s0, s1⟩; go_simp; with_reducible rfl) ?_
                    refine pu_ 8 133 (w_ 11 511) rfl HT_ ?_
                    refine pu_ 9 134 (w_ 11 1023) rfl HT_ ?_
                    refine last_ (i := 10) (N := none) (w_ 11 2047) rfl rfl (one_of HT_.out (by kernel_rfl)) (by decide) (fun K hK => ?_)
                    refine skip_ (w1 := ?_) (by rfl) rfl ?_ ?_
                    rotate_left
                    ·go_simp
                     rfl
                    refine hK.out _ _ ?_
                    clear hK K
                    refine done_ (done_of HT_.out (by kernel_rfl)) ?_
                    try go_wp2
                    go_roundg k2
                    case measure => have := HJ6.out; have := HK2.out; omega
                    case rel => exact ⟨(y532), (x13_2), (wrap64 (x14_2 - 1)), sd_, sd_, H', ⟨by have := HJ6.out; have := HK2.out; omega⟩, ⟨by (with_reducible repeat (first | apply Kd.R_alloc | apply Kd.R_drewN | apply Kd.R_drew)); exact HQ86.out⟩, ⟨by repeat (first | (with_reducible first | exact HB.out | apply below_alloc | apply pw_below_drewN | apply below_drew1 | refine below_set ?_ GB74.out) | exact HB.out)⟩⟩
                   ·rw [if_neg c78] at H
                    exact absurd H (by simp)
                  ·rw [if_neg c77] at H
                   exact absurd H (by simp)
                 ·rw [if_neg c76] at H
                  have c76b0 : decide (0 ≤ t529) = false := decide_eq_false c76
                  clear c76
                  have H' := Aside0.mk H
                  clear H
                  try go_wp2_with (first | ((with_reducible refine gate_callee (f := 24) rfl ?_); refine gl_ (some 72) Try.func24 #[.slice A0 l0.length c0, .int .i64 x14_2] ?_; (with_reducible refine (cohousingref28_Leaf.calls k2 _ _ l0 x14_2 false _ ?side1 ?side2 A26.out).mono ?_); (case side1 => exact cc_ ((Kd.C_below HR0.out HB.out))); (case side2 => exact HC0.out); rintro e w87 ⟨rfl, hb⟩; refine ⟨_, rfl, ?_⟩; have n0_ := Aside0.mk (Kd.R_below (rr_ HO_12) hb); have n1_ := Aside0.mk (below_step (bb_ HB) hb); clear HO_12; clear HB; have HO_12 := n0_; have HB := n1_; clear n0_ n1_; (try clear hb); (try clear hb2); (try clear hk); (try clear hi); have p515 : 0 ≤ (x14_2 : Int) := od_; have q515 : x14_2 < (l1.length : Int) := od_; obtain ⟨ad515, e515, hx515_0⟩ := Kd.at_bool HR1.out x14_2 p515 q515; (try rw [← Nbq48.out] at hx515_0); cases e515; replace hx515_0 := (HB.out.cell (World.block_lt_of_cell? w _ hx515_0)).trans hx515_0; replace p515 := eq_true p515; replace q515 := eq_true q515))
                  have n0_ := Aside0.mk (Kd.R_drew HO_12.out)
                  have n1_ := Aside0.mk (below_drew1 HB.out)
                  clear HO_12
                  clear HB
                  have HO_12 := n0_
                  have HB := n1_
                  clear n0_ n1_
                  obtain ⟨Ao89, co89, eo89⟩ := Kd.R_slice HO_12.out
                  (first | subst eo89 | (injection eo89 with f1_ f2_ f3_; have f4_ := f1_.symm; have f5_ := f3_.symm; clear f1_ f2_ f3_; subst f4_; subst f5_))
                  have p524 : 0 ≤ (x14_2 : Int) := od_
                  have q524 : x14_2 < (x12_2.length : Int) := od_
                  obtain ⟨ad524, e524, hx524_0⟩ := Kd.at_int (Kd.R_reads' HO_12.out).2.2 x14_2 p524 q524
                  cases e524
                  replace p524 := eq_true p524
                  replace q524 := eq_true q524
                  have p525 : 0 ≤ (x14_2 : Int) := od_
                  have q525 : x14_2 < (l3.length : Int) := od_
                  obtain ⟨ad525, e525, hx525_0⟩ := Kd.at_int HR3.out x14_2 p525 q525
                  have hw525_0 := hx525_0
                  cases e525
                  replace hx525_0 := (HB.out.cell (World.block_lt_of_cell? w _ hx525_0)).trans hx525_0
                  replace p525 := eq_true p525
                  replace q525 := eq_true q525
                  have p526 : 0 ≤ (x14_2 : Int) := od_
                  have q526 : x14_2 < (l0.length : Int) := od_
                  obtain ⟨ad526, e526, hx526_0, hx526_1, hx526_2⟩ := at_T44 HR0.out x14_2 p526 q526
                  have hw526_2 := hx526_2
                  have hw526_1 := hx526_1
                  have hw526_0 := hx526_0
                  cases e526
                  replace hx526_0 := (HB.out.cell (World.block_lt_of_cell? w _ hx526_0)).trans hx526_0
                  replace hx526_1 := (HB.out.cell (World.block_lt_of_cell? w _ hx526_1)).trans hx526_1
                  replace hx526_2 := (HB.out.cell (World.block_lt_of_cell? w _ hx526_2)).trans hx526_2
                  replace p526 := eq_true p526
                  replace q526 := eq_true q526
                  have p74 : 0 ≤ (x14_2 : Int) := od_
                  have q74 : (x14_2 : Int) < ((x12_2.length : Int) : Int) := od_
                  obtain ⟨go74, co74, eo74, gb74, gl74, cl74, HG74⟩ := Kd.R_form HO_12.out (by omega)
                  (first | cases eo74 | (injection eo74 with ea_ en_ ec_; (first | subst ea_ | (injection ea_ with ea_; subst ea_)); subst ec_; clear en_))
                  have GB74 := Aside0.mk gb74
                  have GG74 := Aside0.mk HG74
                  clear gb74 gl74 HG74
                  (first | simp only [add_plain] at hx524_0 | skip)
                  obtain ⟨hx74_0, hf74_0⟩ := Kd.R_celln 0 HO_12.out (x14_2 : Int) p74 q74
                  replace p74 := eq_true p74
                  replace q74 := eq_true q74
                  have HP90 := Kd.R_putn HO_12.out (x14_2 : Int) (wrap64 ((rd x12_2 x14_2) + (Int.tmod (wrap64 (rd l3 x14_2)) (wrap64 (((rd_T44 l0 x14_2).f2) + 1)))))
                  rw [← Ny527.out] at HP90
                  have HQ90 := Aside0.mk HP90
                  clear HP90
                  refine start_ (n := 19) (S := fun w' => w'.cell? ⟨go74, (x14_2).toNat, none⟩ = some (.int .i64 (rd x12_2 x14_2)) ∧ w'.cell? (ad525.add (x14_2).toNat) = some (.int .u16 (rd l3 x14_2)) ∧ w'.cell? (ad526.add ((x14_2).toNat * 3)) = some (.int .i64 ((rd_T44 l0 x14_2).f0)) ∧ w'.cell? ⟨(ad526.add ((x14_2).toNat * 3)).block, (ad526.add ((x14_2).toNat * 3)).off + 1, none⟩ = some (.int .i64 ((rd_T44 l0 x14_2).f1)) ∧ w'.cell? ⟨(ad526.add ((x14_2).toNat * 3)).block, (ad526.add ((x14_2).toNat * 3)).off + 2, none⟩ = some (.int .i64 ((rd_T44 l0 x14_2).f2))) (ds := [18]) #[n_, n_, n_, n_, n_, n_, n_, n_, n_, n_, n_, n_, n_, n_, n_, n_, n_, n_, n_] (by kernel_rfl) rfl rfl ⟨hx524_0, ((HB.out.cell (World.block_lt_of_cell? w _ hw525_0)).trans hw525_0), ((HB.out.cell (World.block_lt_of_cell? w _ hw526_0)).trans hw526_0), ((HB.out.cell (World.block_lt_of_cell? w _ hw526_1)).trans hw526_1), ((HB.out.cell (World.block_lt_of_cell? w _ hw526_2)).trans hw526_2)⟩ (fun hHeld => ?_); refine with_tabW cohousinglaw30_LeakTruth.tab14 cohousinglaw30_LeakTruth.bits14 (fun HT_ HW_ => ?_)
                  generalize w87.drew = w88 at HO_12 HB GG74 HQ90 hf74_0 hx524_0 hx525_0 hx526_0 hx526_1 hx526_2 hx74_0 hHeld ⊢
                  refine pu_ 0 98 (w_ 19 1) rfl HT_ ?_
                  refine pu_ 1 99 (w_ 19 3) rfl HT_ ?_
                  refine pu_ 2 100 (w_ 19 7) rfl HT_ ?_
                  refine pu_ 4 102 (w_ 19 23) rfl HT_ ?_
                  refine pu_ 5 103 (w_ 19 55) rfl HT_ ?_
                  refine pu_ 6 104 (w_ 19 119) rfl HT_ ?_
                  refine pu_ 9 107 (w_ 19 631) rfl HT_ ?_
                  refine pu_ 10 108 (w_ 19 1655) rfl HT_ ?_
                  refine pu_ 11 109 (w_ 19 3703) rfl HT_ ?_
                  refine pu_ 12 110 (w_ 19 7799) rfl HT_ ?_
                  refine ta_ 3 101 (w_ 19 7807) rfl HT_ HW_ hHeld (by rintro w' ⟨s0, s1, s2, s3, s4⟩; go_simp; with_reducible rfl) ?_
                  refine ta_ 7 105 (w_ 19 7935) rfl HT_ HW_ hHeld (by rintro w' ⟨s0, s1, s2, s3, s4⟩; go_simp; with_reducible rfl) ?_
                  refine pu_ 8 106 (w_ 19 8191) rfl HT_ ?_
                  refine ta_ 13 111 (w_ 19 16383) rfl HT_ HW_ hHeld (by rintro w' ⟨s0, s1, s2, s3, s4⟩; go_simp; with_reducible rfl) ?_
                  refine pu_ 14 112 (w_ 19 32767) rfl HT_ ?_
                  refine pu_ 15 113 (w_ 19 65535) rfl HT_ ?_
                  refine pu_ 16 114 (w_ 19 131071) rfl HT_ ?_
                  refine pu_ 17 115 (w_ 19 262143) rfl HT_ ?_
                  refine last_ (i := 18) (N := none) (w_ 19 524287) rfl rfl (one_of HT_.out (by kernel_rfl)) (by decide) (fun K hK => ?_)
                  refine skip_ (w1 := ?_) (by rfl) rfl ?_ ?_
                  rotate_left
                  ·go_simp
                   rfl
                  refine hK.out _ _ ?_
                  clear hK K
                  refine done_ (done_of HT_.out (by kernel_rfl)) ?_
                  have p528 : 0 ≤ (x14_2 : Int) := od_
                  have q528 : x14_2 < (l0.length : Int) := od_
                  obtain ⟨ad528, e528, hx528_0, hx528_1, hx528_2⟩ := at_T44 HR0.out x14_2 p528 q528
                  obtain rfl : ad526 = ad528 := (by injection e528)
                  have hn528_0 : ad526.block ≠ go74 := Nat.ne_of_lt (Nat.lt_of_lt_of_le (by have := World.block_lt_of_cell? _ _ hx528_0; first | rwa [add_block] at this | exact this) GB74.out)
                  replace hx528_0 := (HB.out.cell (World.block_lt_of_cell? w _ hx528_0)).trans hx528_0
                  replace hx528_1 := (HB.out.cell (World.block_lt_of_cell? w _ hx528_1)).trans hx528_1
                  replace hx528_2 := (HB.out.cell (World.block_lt_of_cell? w _ hx528_2)).trans hx528_2
                  replace hx528_0 := (cell_far (p := ⟨go74, (x14_2 : Int).toNat, none⟩) (by first | (rw [add_block]; exact hn528_0) | (show (Addr.add _ _).block ≠ _; rw [add_block]; exact hn528_0) | exact hn528_0) (.int .i64 (wrap64 ((rd x12_2 x14_2) + (Int.tmod (wrap64 (rd l3 x14_2)) (wrap64 (((rd_T44 l0 x14_2).f2) + 1))))))).trans hx528_0
                  replace hx528_1 := (cell_far (p := ⟨go74, (x14_2 : Int).toNat, none⟩) (by first | (rw [add_block]; exact hn528_0) | (show (Addr.add _ _).block ≠ _; rw [add_block]; exact hn528_0) | exact hn528_0) (.int .i64 (wrap64 ((rd x12_2 x14_2) + (Int.tmod (wrap64 (rd l3 x14_2)) (wrap64 (((rd_T44 l0 x14_2).f2) + 1))))))).trans hx528_1
                  replace hx528_2 := (cell_far (p := ⟨go74, (x14_2 : Int).toNat, none⟩) (by first | (rw [add_block]; exact hn528_0) | (show (Addr.add _ _).block ≠ _; rw [add_block]; exact hn528_0) | exact hn528_0) (.int .i64 (wrap64 ((rd x12_2 x14_2) + (Int.tmod (wrap64 (rd l3 x14_2)) (wrap64 (((rd_T44 l0 x14_2).f2) + 1))))))).trans hx528_2
                  clear hn528_0
                  replace p528 := eq_true p528
                  replace q528 := eq_true q528
                  try go_wp2_with (first | ((with_reducible refine gate_callee (f := 25) rfl ?_); refine gl_ (some 122) Try.func25 #[.slice (some ad526) l0.length c0, .int .i64 ((rd_T44 l0 x14_2).f1)] ?_; (with_reducible refine (cohousingref28_At.calls k2 _ _ l0 ((rd_T44 l0 x14_2).f1) t529 _ ?side1 ?side2 A75.out).mono ?_); (case side1 => exact Kd.C_below HR0.out (bs_ HB GB74.out)); (case side2 => exact HC0.out); rintro e w' ⟨rfl, ⟨nd, rfl⟩⟩; refine ⟨_, rfl, ?_⟩))
                  go_roundg k2
                  case measure => have := HJ6.out; have := HK2.out; omega
                  case rel => exact ⟨(y527), (x13_2), (wrap64 (x14_2 - 1)), sd_, sd_, H', ⟨by have := HJ6.out; have := HK2.out; omega⟩, ⟨by (with_reducible repeat (first | apply Kd.R_alloc | apply Kd.R_drewN | apply Kd.R_drew)); exact HQ90.out⟩, ⟨by repeat (first | (with_reducible first | exact HB.out | apply below_alloc | apply pw_below_drewN | apply below_drew1 | refine below_set ?_ GB74.out) | exact HB.out)⟩⟩
               ·rw [if_neg c72] at H
                exact absurd H (by simp)
              ·rw [if_neg c71] at H
               exact absurd H (by simp)
             ·rw [if_neg c70] at H
              exact absurd H (by simp)
           ·rw [if_neg c47] at H
            exact absurd H (by simp)
          ·rw [if_neg c46] at H
           exact absurd H (by simp)
        ·rw [if_neg c25] at H
         have c25b0 : decide (0 ≤ x14_2) = false := decide_eq_false c25
         clear c25
         have H' := Aside0.mk H
         clear H
         obtain ⟨Ao91, co91, eo91⟩ := Kd.R_slice HO_12.out
         subst eo91
         go_wp2
         go_loopg [16, 137] k2 (fun kq v16 v137 w' => ∃ (x16_3 : List (S46)) (x137_3 : Int), v137 = .int .i64 x137_3 ∧ Aside0 (cohousinglaw30_LeakTruth.l1 kq l0 l4 t502 x13_2 x16_3 x12_2 (x12_2.length : Int) x137_3 = some r) ∧ Aside0 (kq ≤ k2) ∧ Aside0 (Kd.R k46 46 w' w.heap.size (fun _ => True) v16 x16_3) ∧ Aside0 (Kd.R (Kd.int .i64) 3 w' w.heap.size (fun _ => True) (.slice Ao91 x12_2.length co91) x12_2) ∧ Aside0 (Below w.heap.size w w'))
         case atStart => exact ⟨(([] : List (S46))), (0), sd_, H', ⟨Nat.le_refl _⟩, ⟨by first | exact Kd.R_nil _ _ _ _ _ | exact Kd.N_nil _ _ _ _ _ | exact Kd.V_nil _ _ _ _ _ | exact Kd.Q_nil _ _ _ _ _ | exact Kd.S_nil _ _ _ _ _⟩, ⟨by (with_reducible repeat (first | apply Kd.R_alloc | apply Kd.R_drewN | apply Kd.R_drew)); exact HO_12.out⟩, ⟨by repeat (first | (with_reducible first | exact HB.out | apply below_alloc | apply pw_below_drewN | apply below_drew1) | exact HB.out)⟩⟩
         case round =>
          clear H'
          try clear c2
          try clear p2
          try clear c4
          try clear q4
          try clear p5
          try clear q5
          try clear hx5
          try clear p6
          try clear c7
          try clear p7
          try clear q7
          try clear hx7
          try clear hf7
          try clear c24
          try clear c25
          try clear c25b0
          try clear c46
          try clear c47
          try clear q48
          try clear p51
          try clear q51
          try clear hx51
          try clear p52
          try clear q52
          try clear hx52
          try clear p53
          try clear q53
          try clear hx53
          try clear p64
          try clear c70
          try clear c71
          try clear c72
          try clear p74
          try clear q74
          try clear hx74
          try clear hf74
          try clear c76
          try clear c76b0
          try clear c77
          try clear c78
          try clear p79
          try clear q79
          try clear hx79
          try clear hf79
          try clear hx515_0
          try clear hx524_0
          try clear hx525_0
          try clear hx526_0
          try clear hx526_1
          try clear hx526_2
          try clear hx528_0
          try clear hx528_1
          try clear hx528_2
          try clear hx530_0
          try clear hx531_0
          try clear hx74_0
          try clear hx79_0
          try clear p515
          try clear p524
          try clear p525
          try clear p526
          try clear p528
          try clear p530
          try clear p531
          try clear p74
          try clear p79
          try clear q515
          try clear q524
          try clear q525
          try clear q526
          try clear q528
          try clear q530
          try clear q531
          try clear q74
          try clear q79
          obtain ⟨x16_3, x137_3, rfl, HA, HK3, HO_16, HO_135, HB⟩ := hrel
          cases gk with
          | zero => exact absurd HA.out (by simp [cohousinglaw30_LeakTruth.l1])
          | succ k3 =>
           have H := HA.out
           clear HA
           simp only [cohousinglaw30_LeakTruth.l1] at H
           by_cases c92 : x137_3 < (x12_2.length : Int)
           ·rw [if_pos c92] at H
            have c92b0 : decide (x137_3 < (x12_2.length : Int)) = true := decide_eq_true c92
            clear c92
            by_cases c93 : 0 ≤ x137_3
            ·rw [if_pos c93] at H
             have c93b0 : decide (0 ≤ x137_3) = true := decide_eq_true c93
             clear c93
             by_cases c94 : x137_3 < (x12_2.length : Int)
             ·rw [if_pos c94] at H
              have c94b0 : decide (x137_3 < (x12_2.length : Int)) = true := decide_eq_true c94
              clear c94
              by_cases c95 : x137_3 < (l4.length : Int)
              ·rw [if_pos c95] at H
               have c95b0 : decide (x137_3 < (l4.length : Int)) = true := decide_eq_true c95
               clear c95
               obtain ⟨ji96, hji96⟩ : ∃ j_ : Int, (mx 0 (wrap64 ((rd x12_2 x137_3) - (wrap64 (Int.tmod (rd l4 x137_3) 4))))) = j_ := ⟨_, rfl⟩
               replace H : (if x16_3.length < 8796093022208 then (cohousinglaw30_LeakTruth.l1 k3 l0 l4 t502 x13_2 (x16_3 ++ [(⟨ji96, wrap64 ((rd x12_2 x137_3) + ((Int.tdiv (rd l4 x137_3) 4) % 256))⟩ : S46)]) x12_2 (x12_2.length : Int) (wrap64 (x137_3 + 1))) else (none)) = some r := by first | (rw [hji96] at H; exact H) | (simp only [hji96] at H ⊢; exact H)
               have hji96_ : (if 0 < (wrap64 ((rd x12_2 x137_3) - (wrap64 (Int.tmod (rd l4 x137_3) 4)))) then (wrap64 ((rd x12_2 x137_3) - (wrap64 (Int.tmod (rd l4 x137_3) 4)))) else 0) = ji96 := hji96
               by_cases c97 : x16_3.length < 8796093022208
               ·rw [if_pos c97] at H
                have LMc97 := Aside0.mk c97
                clear c97
                obtain ⟨y536, hy536⟩ : ∃ y_ : List (S46), y_ = (x16_3 ++ [(⟨ji96, wrap64 ((rd x12_2 x137_3) + ((Int.tdiv (rd l4 x137_3) 4) % 256))⟩ : S46)]) := ⟨_, rfl⟩
                replace H : (cohousinglaw30_LeakTruth.l1 k3 l0 l4 t502 x13_2 y536 x12_2 (x12_2.length : Int) (wrap64 (x137_3 + 1))) = some r := by first | (rw [hy536]; with_reducible exact H) | (have H2_ := (Option.bind_some _ _).symm.trans H; rw [hy536]; with_reducible exact H2_) | (have H2_ := (Option.bind_some _ _).symm.trans H; with_reducible exact H2_) | with_reducible exact H | (rw [hy536]; exact H) | exact H
                have Ny536 := Aside0.mk hy536
                clear hy536
                have H' := Aside0.mk H
                clear H
                have p533 : 0 ≤ (x137_3 : Int) := od_
                have q533 : x137_3 < (x12_2.length : Int) := od_
                obtain ⟨ad533, e533, hx533_0⟩ := Kd.at_int (Kd.R_reads' HO_135.out).2.2 x137_3 p533 q533
                cases e533
                replace p533 := eq_true p533
                replace q533 := eq_true q533
                try go_wp2
                have n0_ := Aside0.mk (Kd.R_drew HO_16.out)
                have n1_ := Aside0.mk (Kd.R_drew HO_135.out)
                have n2_ := Aside0.mk (below_drew1 HB.out)
                clear HO_16
                clear HO_135
                clear HB
                have HO_16 := n0_
                have HO_135 := n1_
                have HB := n2_
                clear n0_ n1_ n2_
                have p534 : 0 ≤ (x137_3 : Int) := od_
                have q534 : x137_3 < (l4.length : Int) := od_
                obtain ⟨ad534, e534, hx534_0⟩ := Kd.at_int HR4.out x137_3 p534 q534
                have hw534_0 := hx534_0
                cases e534
                replace hx534_0 := (HB.out.cell (World.block_lt_of_cell? w _ hx534_0)).trans hx534_0
                replace p534 := eq_true p534
                replace q534 := eq_true q534
                have p535 : 0 ≤ (x137_3 : Int) := od_
                have q535 : x137_3 < (l4.length : Int) := od_
                obtain ⟨ad535, e535, hx535_0⟩ := Kd.at_int HR4.out x137_3 p535 q535
                have hw535_0 := hx535_0
                obtain rfl : ad534 = ad535 := (by injection e535)
                replace hx535_0 := (HB.out.cell (World.block_lt_of_cell? w _ hx535_0)).trans hx535_0
                replace p535 := eq_true p535
                replace q535 := eq_true q535
                refine start_ (n := 22) (S := fun w' => w'.cell? (ad534.add (x137_3).toNat) = some (.int .u8 (rd l4 x137_3)) ∧ w'.cell? (ad534.add (x137_3).toNat) = some (.int .u8 (rd l4 x137_3))) (ds := []) #[n_, n_, n_, n_, n_, n_, n_, n_, n_, n_, n_, n_, n_, n_, n_, n_, n_, n_, n_, n_, n_, n_] (by kernel_rfl) rfl rfl ⟨((HB.out.cell (World.block_lt_of_cell? w _ hw534_0)).trans hw534_0), ((HB.out.cell (World.block_lt_of_cell? w _ hw535_0)).trans hw535_0)⟩ (fun hHeld => ?_); refine with_tabW cohousinglaw30_LeakTruth.tab22 cohousinglaw30_LeakTruth.bits22 (fun HT_ HW_ => ?_)
                generalize wr.drew = w98 at HO_16 HO_135 HB hx534_0 hx535_0 hHeld ⊢
                refine pu_ 0 142 (w_ 22 1) rfl HT_ ?_
                refine pu_ 1 143 (w_ 22 3) rfl HT_ ?_
                refine pu_ 2 144 (w_ 22 7) rfl HT_ ?_
                refine pu_ 3 145 (w_ 22 15) rfl HT_ ?_
                refine pu_ 4 146 (w_ 22 31) rfl HT_ ?_
                refine pu_ 10 152 (w_ 22 1055) rfl HT_ ?_
                refine pu_ 11 153 (w_ 22 3103) rfl HT_ ?_
                refine pu_ 12 154 (w_ 22 7199) rfl HT_ ?_
                refine pu_ 13 155 (w_ 22 15391) rfl HT_ ?_
                refine ta_ 5 147 (w_ 22 15423) rfl HT_ HW_ hHeld (by rintro w' ⟨s0, s1⟩; go_simp; with_reducible rfl) ?_
                refine pu_ 6 148 (w_ 22 15487) rfl HT_ ?_
                refine pu_ 7 149 (w_ 22 15615) rfl HT_ ?_
                refine pu_ 8 150 (w_ 22 15871) rfl HT_ ?_
                refine pu_ 9 151 (w_ 22 16383) rfl HT_ ?_
                refine ta_ 14 156 (w_ 22 32767) rfl HT_ HW_ hHeld (by rintro w' ⟨s0, s1⟩; go_simp; with_reducible rfl) ?_
                refine pu_ 15 157 (w_ 22 65535) rfl HT_ ?_
                refine pu_ 16 158 (w_ 22 131071) rfl HT_ ?_
                refine pu_ 17 159 (w_ 22 262143) rfl HT_ ?_
                refine pu_ 18 160 (w_ 22 524287) rfl HT_ ?_
                refine one_ (i := 19) (N := some 161) (w_ 22 1048575) rfl rfl (one_of HT_.out (by kernel_rfl)) (by decide) (fun K hK => ?_)
                refine value_ (w1 := ?_) (v := ?_) (by rfl) rfl ?_ ?_
                rotate_left 2
                ·go_simp
                 constructor
                 ·rfl
                 ·rfl
                refine hK.out _ _ ⟨(World.cell?_alloc_lt _ _ _ (World.block_lt_of_cell? _ _ (((HB.out.cell (World.block_lt_of_cell? w _ hw534_0)).trans hw534_0)))).trans (((HB.out.cell (World.block_lt_of_cell? w _ hw534_0)).trans hw534_0)), (World.cell?_alloc_lt _ _ _ (World.block_lt_of_cell? _ _ (((HB.out.cell (World.block_lt_of_cell? w _ hw535_0)).trans hw535_0)))).trans (((HB.out.cell (World.block_lt_of_cell? w _ hw535_0)).trans hw535_0))⟩ (fun hHeld => ?_)
                clear hK K
                refine norm_ (a' := ?_) ?_ ?_
                rotate_left
                ·show Act.put _ (some 161) _ = _
                 simp only [Act.put, sI_, s0_, sS_, i64_w, i32_w]
                 rfl
                refine one_ (i := 20) (N := some 162) (w_ 22 2097151) rfl rfl (one_of HT_.out (by kernel_rfl)) (by decide) (fun K hK => ?_)
                refine Kd.R_append_step k46 (w0 := w) w.heap.size (by rfl) (.tmp 142) (.tmp 161) 23 46 (.agg #[(.int .i64 0), (.int .i64 0)]) 16 rfl Try.underlying23 info46 rfl (by decide) (by omega) u16 x16_3 (⟨ji96, wrap64 ((rd x12_2 x137_3) + ((Int.tdiv (rd l4 x137_3) 4) % 256))⟩ : S46) [.int .i64 ji96, .int .i64 (wrap64 ((rd x12_2 x137_3) + ((Int.tdiv (rd l4 x137_3) 4) % 256)))] (fun _ => True) (fun _ => False) rfl rfl ?aP (fun _ hk => hk.elim) ?aF ?aO ?aB ?aS ?aL ?_
                (case aP => exact k46_mkM _ _ _ (⟨ji96, wrap64 ((rd x12_2 x137_3) + ((Int.tdiv (rd l4 x137_3) 4) % 256))⟩ : S46))
                (case aB => exact (bb_ HB))
                (case aF => exact (fun _ _ => trivial))
                (case aO => exact (rr_ HO_16))
                (case aS => exact (below_size (bb_ HB)))
                (case aL => have := LMc97.out; omega)
                intro v537 w99 ho hb hg hat
                rw [← Ny536.out] at ho
                have n0_ := Aside0.mk (Kd.R_over' (rr_ HO_135) (Kd.R_typed (rr_ HO_16)) (by decide) hg)
                have n1_ := Aside0.mk (hb)
                have n2_ := Aside0.mk (ho)
                clear HO_135
                clear HB
                clear HO_16
                have HO_135 := n0_
                have HB := n1_
                have HO538 := n2_
                clear n0_ n1_ n2_
                clear ho hb hg hat
                refine hK.out _ _ ⟨((HB.out.cell (World.block_lt_of_cell? w _ hw534_0)).trans hw534_0), ((HB.out.cell (World.block_lt_of_cell? w _ hw535_0)).trans hw535_0)⟩ (fun hHeld => ?_)
                clear hK K
                refine norm_ (a' := ?_) ?_ ?_
                rotate_left
                ·show Act.put _ (some 162) _ = _
                 simp only [Act.put, sI_, s0_, sS_, i64_w, i32_w]
                 rfl
                refine pu_ 21 16 (w_ 22 4194303) rfl HT_ ?_
                refine done_ (done_of HT_.out (by kernel_rfl)) ?_
                try go_wp2
                go_roundg k3
                case measure => have := HJ6.out; have := HK2.out; have := HK3.out; omega
                case rel => exact ⟨(y536), (wrap64 (x137_3 + 1)), sd_, H', ⟨by have := HJ6.out; have := HK2.out; have := HK3.out; omega⟩, ⟨by (with_reducible repeat (first | apply Kd.R_alloc | apply Kd.R_drewN | apply Kd.R_drew)); exact HO538.out⟩, ⟨by (with_reducible repeat (first | apply Kd.R_alloc | apply Kd.R_drewN | apply Kd.R_drew)); exact HO_135.out⟩, ⟨by repeat (first | (with_reducible first | exact HB.out | apply below_alloc | apply pw_below_drewN | apply below_drew1) | exact HB.out)⟩⟩
               ·rw [if_neg c97] at H
                exact absurd H (by simp)
              ·rw [if_neg c95] at H
               exact absurd H (by simp)
             ·rw [if_neg c94] at H
              exact absurd H (by simp)
            ·rw [if_neg c93] at H
             exact absurd H (by simp)
           ·rw [if_neg c92] at H
            have c92b0 : decide (x137_3 < (x12_2.length : Int)) = false := decide_eq_false c92
            clear c92
            by_cases c100 : x13_2 > 3
            ·rw [if_pos c100] at H
             have c100b0 : decide (3 < x13_2) = true := decide_eq_true c100
             clear c100
             obtain rfl := Option.some.inj H
             go_wp2
             go_ret
             exact ⟨ew_, by repeat (first | (with_reducible first | exact HB.out | apply below_alloc | apply pw_below_drewN | apply below_drew1) | exact HB.out)⟩
            ·rw [if_neg c100] at H
             have c100b0 : decide (3 < x13_2) = false := decide_eq_false c100
             clear c100
             replace H := Option.bind_eq_some_iff.mp H
             obtain ⟨⟨t539, t540, t541⟩, A1010, H⟩ := H
             replace H : (if t502 = true then (if t541 = 0 then (if t540 = true then (if (t539.length : Int) ≤ x13_2 then ((cohousinglaw30_explains.f k3 l0 x16_3 t539).bind fun t544 => (some t544)) else (some false)) else (some false)) else (some false)) else (some false)) = some r := H
             have A101 := Aside0.mk A1010
             clear A1010
             by_cases c102 : t502 = true
             ·subst c102
              have H1 : (if t541 = 0 then (if t540 = true then (if (t539.length : Int) ≤ x13_2 then ((cohousinglaw30_explains.f k3 l0 x16_3 t539).bind fun t544 => (some t544)) else (some false)) else (some false)) else (some false)) = some r := by rw [if_pos rfl] at H; exact H
              clear H
              have H := H1
              clear H1
              by_cases c103 : t541 = 0
              ·rw [if_pos c103] at H
               have c103b0 : (t541 == 0) = true := beq_iff_eq.mpr c103
               have c103b1 : (t541 != 0) = false := bne_eq_false_iff_eq.mpr c103
               clear c103
               by_cases c104 : t540 = true
               ·subst c104
                have H1 : (if (t539.length : Int) ≤ x13_2 then ((cohousinglaw30_explains.f k3 l0 x16_3 t539).bind fun t544 => (some t544)) else (some false)) = some r := by rw [if_pos rfl] at H; exact H
                clear H
                have H := H1
                clear H1
                by_cases c105 : (t539.length : Int) ≤ x13_2
                ·rw [if_pos c105] at H
                 have c105b0 : decide ((t539.length : Int) ≤ x13_2) = true := decide_eq_true c105
                 clear c105
                 replace H := Option.bind_eq_some_iff.mp H
                 obtain ⟨t544, A1060, H⟩ := H
                 replace H : (some t544) = some r := H
                 have A106 := Aside0.mk A1060
                 clear A1060
                 obtain rfl := Option.some.inj H
                 obtain ⟨Ao107, co107, eo107⟩ := Kd.R_slice HO_16.out
                 subst eo107
                 go_wp2_with (first | ((with_reducible refine gate_callee (f := 13) rfl ?_); refine gl_ (some 171) Try.func13 #[.slice A0 l0.length c0, .slice Ao107 x16_3.length co107, .int .i64 x13_2] ?_; (with_reducible refine (leak_Explain.calls _ _ l0 _ _ x16_3 x13_2 t539 true t541 _ ?side1 ?side2 ?side3 ?side4 A101.out).mono ?_); (case side1 => exact cc_ ((Kd.C_below HR0.out HB.out))); (case side2 => exact HC0.out); (case side3 => exact cc_ ((Kd.R_reads' HO_16.out).2.2)); (case side4 => exact (Kd.R_reads' HO_16.out).2.1); rintro e w108 ⟨v542, rfl, ho0, hb⟩; refine ⟨_, rfl, ?_⟩; have n0_ := Aside0.mk (Kd.R_below (rr_ HO_16) hb); have n1_ := Aside0.mk (Kd.R_elder' (rr_ HO_135) (Kd.R_base ho0) hb); have n2_ := Aside0.mk (Kd.R_lower (Kd.R_new' ho0 (Kd.R_lt (rr_ HO_135))) (below_size (bb_ HB))); have n3_ := Aside0.mk (below_step (bb_ HB) hb); clear HO_16; clear HO_135; clear HB; have HO_16 := n0_; have HO_135 := n1_; have HO543 := n2_; have HB := n3_; clear n0_ n1_ n2_ n3_; (try clear hb); (try clear hb2); (try clear hk); (try clear hi); (try clear ho0); obtain ⟨Ao109, co109, eo109⟩ := Kd.R_slice HO543.out; subst eo109) | (go_at_call 19; (with_reducible refine (cohousinglaw30_explains.calls k3 _ _ l0 _ _ x16_3 _ _ t539 t544 _ ?side1 ?side2 ?side3 ?side4 ?side5 ?side6 A106.out).mono ?_); (case side1 => exact cc_ ((Kd.C_below HR0.out HB.out))); (case side2 => exact HC0.out); (case side3 => exact cc_ ((Kd.R_reads' HO_16.out).2.2)); (case side4 => exact (Kd.R_reads' HO_16.out).2.1); (case side5 => exact cc_ ((Kd.R_reads' HO543.out).2.2)); (case side6 => exact (Kd.R_reads' HO543.out).2.1); rintro e w110 ⟨rfl, hb⟩; have n0_ := Aside0.mk (Kd.R_below (rr_ HO_16) hb); have n1_ := Aside0.mk (Kd.R_below (rr_ HO_135) hb); have n2_ := Aside0.mk (Kd.R_below (rr_ HO543) hb); have n3_ := Aside0.mk (below_step (bb_ HB) hb); clear HO_16; clear HO_135; clear HO543; clear HB; have HO_16 := n0_; have HO_135 := n1_; have HO543 := n2_; have HB := n3_; clear n0_ n1_ n2_ n3_; (try clear hb); (try clear hb2); (try clear hk); (try clear hi)))
                 go_ret
                 exact ⟨ew_, by repeat (first | (with_reducible first | exact HB.out | apply below_alloc | apply pw_below_drewN | apply below_drew1) | exact HB.out)⟩
                ·rw [if_neg c105] at H
                 have c105b0 : decide ((t539.length : Int) ≤ x13_2) = false := decide_eq_false c105
                 clear c105
                 obtain rfl := Option.some.inj H
                 obtain ⟨Ao111, co111, eo111⟩ := Kd.R_slice HO_16.out
                 subst eo111
                 go_wp2_with (first | ((with_reducible refine gate_callee (f := 13) rfl ?_); refine gl_ (some 171) Try.func13 #[.slice A0 l0.length c0, .slice Ao111 x16_3.length co111, .int .i64 x13_2] ?_; (with_reducible refine (leak_Explain.calls _ _ l0 _ _ x16_3 x13_2 t539 true t541 _ ?side1 ?side2 ?side3 ?side4 A101.out).mono ?_); (case side1 => exact cc_ ((Kd.C_below HR0.out HB.out))); (case side2 => exact HC0.out); (case side3 => exact cc_ ((Kd.R_reads' HO_16.out).2.2)); (case side4 => exact (Kd.R_reads' HO_16.out).2.1); rintro e w112 ⟨v542, rfl, ho0, hb⟩; refine ⟨_, rfl, ?_⟩; have n0_ := Aside0.mk (Kd.R_below (rr_ HO_16) hb); have n1_ := Aside0.mk (Kd.R_elder' (rr_ HO_135) (Kd.R_base ho0) hb); have n2_ := Aside0.mk (Kd.R_lower (Kd.R_new' ho0 (Kd.R_lt (rr_ HO_135))) (below_size (bb_ HB))); have n3_ := Aside0.mk (below_step (bb_ HB) hb); clear HO_16; clear HO_135; clear HB; have HO_16 := n0_; have HO_135 := n1_; have HO543 := n2_; have HB := n3_; clear n0_ n1_ n2_ n3_; (try clear hb); (try clear hb2); (try clear hk); (try clear hi); (try clear ho0); obtain ⟨Ao113, co113, eo113⟩ := Kd.R_slice HO543.out; subst eo113))
                 go_ret
                 exact ⟨ew_, by repeat (first | (with_reducible first | exact HB.out | apply below_alloc | apply pw_below_drewN | apply below_drew1) | exact HB.out)⟩
               ·replace c104 := Bool.eq_false_iff.mpr c104
                subst c104
                have H1 : (some false) = some r := by rw [if_neg (show ¬ (false = true) by decide)] at H; exact H
                clear H
                have H := H1
                clear H1
                obtain rfl := Option.some.inj H
                obtain ⟨Ao114, co114, eo114⟩ := Kd.R_slice HO_16.out
                subst eo114
                go_wp2_with (first | ((with_reducible refine gate_callee (f := 13) rfl ?_); refine gl_ (some 171) Try.func13 #[.slice A0 l0.length c0, .slice Ao114 x16_3.length co114, .int .i64 x13_2] ?_; (with_reducible refine (leak_Explain.calls _ _ l0 _ _ x16_3 x13_2 t539 false t541 _ ?side1 ?side2 ?side3 ?side4 A101.out).mono ?_); (case side1 => exact cc_ ((Kd.C_below HR0.out HB.out))); (case side2 => exact HC0.out); (case side3 => exact cc_ ((Kd.R_reads' HO_16.out).2.2)); (case side4 => exact (Kd.R_reads' HO_16.out).2.1); rintro e w115 ⟨v542, rfl, ho0, hb⟩; refine ⟨_, rfl, ?_⟩; have n0_ := Aside0.mk (Kd.R_below (rr_ HO_16) hb); have n1_ := Aside0.mk (Kd.R_elder' (rr_ HO_135) (Kd.R_base ho0) hb); have n2_ := Aside0.mk (Kd.R_lower (Kd.R_new' ho0 (Kd.R_lt (rr_ HO_135))) (below_size (bb_ HB))); have n3_ := Aside0.mk (below_step (bb_ HB) hb); clear HO_16; clear HO_135; clear HB; have HO_16 := n0_; have HO_135 := n1_; have HO543 := n2_; have HB := n3_; clear n0_ n1_ n2_ n3_; (try clear hb); (try clear hb2); (try clear hk); (try clear hi); (try clear ho0)))
                go_ret
                exact ⟨ew_, by repeat (first | (with_reducible first | exact HB.out | apply below_alloc | apply pw_below_drewN | apply below_drew1) | exact HB.out)⟩
              ·rw [if_neg c103] at H
               have c103b0 : (t541 == 0) = false := beq_eq_false_iff_ne.mpr c103
               have c103b1 : (t541 != 0) = true := bne_iff_ne.mpr c103
               obtain rfl := Option.some.inj H
               obtain ⟨Ao116, co116, eo116⟩ := Kd.R_slice HO_16.out
               subst eo116
               go_wp2_with (first | ((with_reducible refine gate_callee (f := 13) rfl ?_); refine gl_ (some 171) Try.func13 #[.slice A0 l0.length c0, .slice Ao116 x16_3.length co116, .int .i64 x13_2] ?_; (with_reducible refine (leak_Explain.calls _ _ l0 _ _ x16_3 x13_2 t539 t540 t541 _ ?side1 ?side2 ?side3 ?side4 A101.out).mono ?_); (case side1 => exact cc_ ((Kd.C_below HR0.out HB.out))); (case side2 => exact HC0.out); (case side3 => exact cc_ ((Kd.R_reads' HO_16.out).2.2)); (case side4 => exact (Kd.R_reads' HO_16.out).2.1); rintro e w117 ⟨v542, rfl, ho0, hb⟩; refine ⟨_, rfl, ?_⟩; have n0_ := Aside0.mk (Kd.R_below (rr_ HO_16) hb); have n1_ := Aside0.mk (Kd.R_elder' (rr_ HO_135) (Kd.R_base ho0) hb); have n2_ := Aside0.mk (Kd.R_lower (Kd.R_new' ho0 (Kd.R_lt (rr_ HO_135))) (below_size (bb_ HB))); have n3_ := Aside0.mk (below_step (bb_ HB) hb); clear HO_16; clear HO_135; clear HB; have HO_16 := n0_; have HO_135 := n1_; have HO543 := n2_; have HB := n3_; clear n0_ n1_ n2_ n3_; (try clear hb); (try clear hb2); (try clear hk); (try clear hi); (try clear ho0)))
               go_ret
               exact ⟨ew_, by repeat (first | (with_reducible first | exact HB.out | apply below_alloc | apply pw_below_drewN | apply below_drew1) | exact HB.out)⟩
             ·replace c102 := Bool.eq_false_iff.mpr c102
              subst c102
              have H1 : (some false) = some r := by rw [if_neg (show ¬ (false = true) by decide)] at H; exact H
              clear H
              have H := H1
              clear H1
              obtain rfl := Option.some.inj H
              obtain ⟨Ao118, co118, eo118⟩ := Kd.R_slice HO_16.out
              subst eo118
              go_wp2_with (first | ((with_reducible refine gate_callee (f := 13) rfl ?_); refine gl_ (some 171) Try.func13 #[.slice A0 l0.length c0, .slice Ao118 x16_3.length co118, .int .i64 x13_2] ?_; (with_reducible refine (leak_Explain.calls _ _ l0 _ _ x16_3 x13_2 t539 t540 t541 _ ?side1 ?side2 ?side3 ?side4 A101.out).mono ?_); (case side1 => exact cc_ ((Kd.C_below HR0.out HB.out))); (case side2 => exact HC0.out); (case side3 => exact cc_ ((Kd.R_reads' HO_16.out).2.2)); (case side4 => exact (Kd.R_reads' HO_16.out).2.1); rintro e w119 ⟨v542, rfl, ho0, hb⟩; refine ⟨_, rfl, ?_⟩; have n0_ := Aside0.mk (Kd.R_below (rr_ HO_16) hb); have n1_ := Aside0.mk (Kd.R_elder' (rr_ HO_135) (Kd.R_base ho0) hb); have n2_ := Aside0.mk (Kd.R_lower (Kd.R_new' ho0 (Kd.R_lt (rr_ HO_135))) (below_size (bb_ HB))); have n3_ := Aside0.mk (below_step (bb_ HB) hb); clear HO_16; clear HO_135; clear HB; have HO_16 := n0_; have HO_135 := n1_; have HO543 := n2_; have HB := n3_; clear n0_ n1_ n2_ n3_; (try clear hb); (try clear hb2); (try clear hk); (try clear hi); (try clear ho0)))
              go_ret
              exact ⟨ew_, by repeat (first | (with_reducible first | exact HB.out | apply below_alloc | apply pw_below_drewN | apply below_drew1) | exact HB.out)⟩
     ·rw [if_neg c22] at H
      exact absurd H (by simp)
    ·rw [if_neg c21] at H
     exact absurd H (by simp)
end
end Go.Proofs.Ytolmjhpapidmhaa.P
end
section
namespace Go.Proofs.Ytolmjhpapidmhaa.P
open Go.RowKit Go.Proofs.YtolmjhpapidmhaaW.PrintWords Go.Proofs.YtolmjhpapidmhaaW.PrintLast Go.Proofs.YtolmjhpapidmhaaW.PrintMore Go.Proofs.YtolmjhpapidmhaaH Go.Proofs.FlowTree
open Classical
abbrev fz (x : List Int) (j : Nat) : Int := rd x (j : Int)
theorem fz_set (x : List Int) (k j : Nat) (v : Int) (h : k < x.length) : fz (x.set k v) j = if k = j then v else fz x j := by
 simp only [fz, rd, Int.toNat_natCast, List.getD_eq_getElem?_getD, List.getElem?_set]
 by_cases e : k = j
 ·subst e; simp [h]
 ·simp [e]
theorem leaf_ev (p : List PI) (hn : p.length ≤ 200) (i : Nat) (hi : i < p.length) : Ev (fun k => cohousingref28_Leaf.f k p (i : Int)) (decide (kidsAt p p.length i = [])) := by
 unfold cohousingref28_Leaf.f
 refine Ev.bnd (below_f' p hn i hi) ?_
 have e : ((((kidsAt p p.length i).map Int.ofNat).length : Int) == 0) = decide (kidsAt p p.length i = []) := by
  rw [List.length_map]
  cases h : kidsAt p p.length i with
  | nil => simp
  | cons a s => simp; omega
 rw [e]
 exact Ev.pure _
theorem atg_l0 (l : List PI) (a : Int) (hB : l.length ≤ 140737488355328) : ∀ (d i : Nat), i + d = l.length → ∃ v : Int, Ev (fun k => cohousingref28_At.l0 k l a (i : Int)) v ∧ ((v = -1 ∧ ∀ j, i ≤ j → j < l.length → idP l j ≠ a) ∨ ∃ j : Nat, j < l.length ∧ v = (j : Int) ∧ idP l j = a) := by
 intro d
 induction d with
 | zero =>
  intro i hi
  have h1 : ¬ ((i : Int) < (l.length : Int)) := by omega
  refine ⟨-1, Ev.step ?_, .inl ⟨rfl, fun j h2 h3 => by omega⟩⟩
  simp only [cohousingref28_At.l0, h1, if_false]
  exact Ev.pure _
 | succ d ih =>
  intro i hi
  have h1 : ((i : Int) < (l.length : Int)) := by omega
  have h2 : (0 : Int) ≤ (i : Int) := by omega
  by_cases he : (rd_T44 l (i : Int)).f0 = a
  ·refine ⟨(i : Int), Ev.step ?_, .inr ⟨i, by omega, rfl, he⟩⟩
   simp only [cohousingref28_At.l0, h1, h2, he, if_true]
   exact Ev.pure _
  ·obtain ⟨v, hv, hs⟩ := ih (i + 1) (by omega)
   refine ⟨v, Ev.step ?_, ?_⟩
   ·simp only [cohousingref28_At.l0, h1, h2, he, if_true, if_false, wrap_nat (show i ≤ 140737488355328 by omega)]
    exact hv
   ·rcases hs with ⟨h, h'⟩ | h
    ·refine .inl ⟨h, fun j h3 h4 => ?_⟩
     by_cases e : j = i
     ·subst e; exact he
     ·exact h' j (by omega) h4
    ·exact .inr h
theorem atg_f (l : List PI) (a : Int) (hB : l.length ≤ 140737488355328) : ∃ v : Int, Ev (fun k => cohousingref28_At.f k l a) v ∧ ((v = -1 ∧ ∀ j, j < l.length → idP l j ≠ a) ∨ ∃ j : Nat, j < l.length ∧ v = (j : Int) ∧ idP l j = a) := by
 obtain ⟨v, hv, hs⟩ := atg_l0 l a hB l.length 0 (by omega)
 exact ⟨v, hv, hs.imp (fun h => ⟨h.1, fun j hj => h.2 j (Nat.zero_le _) hj⟩) id⟩
theorem sm_filter (f : Nat → Int) (i : Nat) (ks : List Nat) (hn : ks.Nodup) : sm f (ks.filter (fun k => decide (i ≤ k))) = (if i ∈ ks then f i else 0) + sm f (ks.filter (fun k => decide (i + 1 ≤ k))) := by
 induction ks with
 | nil => simp [sm_nil]
 | cons k ks ih =>
  rw [List.nodup_cons] at hn
  have ih' := ih hn.2
  by_cases e : i = k
  ·subst e
   have h1 : ¬ (i + 1 ≤ i) := by omega
   rw [if_neg hn.1] at ih'
   simp only [List.filter_cons, Nat.le_refl, decide_true, if_true, h1, decide_false, Bool.false_eq_true, if_false, sm_cons, List.mem_cons, true_or, ih']
   omega
  ·by_cases h : i ≤ k
   ·have h1 : i + 1 ≤ k := by omega
    simp only [List.filter_cons, h, h1, decide_true, if_true, sm_cons, List.mem_cons, e, false_or, ih']
    omega
   ·have h1 : ¬ i + 1 ≤ k := by omega
    simp only [List.filter_cons, h, h1, decide_false, Bool.false_eq_true, if_false, List.mem_cons, e, false_or, ih']
theorem sm_one_more (id : Nat → Int) (c a : Int) (ha : 0 ≤ a) (f : Nat → Int) : ∀ m, (∀ i j, i < m → j < m → id i = id j → i = j) → sm (fun j => if id j = c then f j + a else f j) (List.range m) ≤ sm f (List.range m) + a := by
 intro m
 induction m with
 | zero => intro _; simp [sm_nil]; exact ha
 | succ m ih =>
  intro hinj
  rw [List.range_succ, sm_append, sm_append, sm_cons, sm_cons, sm_nil, sm_nil]
  by_cases e : id m = c
  ·have : sm (fun j => if id j = c then f j + a else f j) (List.range m) = sm f (List.range m) := by
    refine sm_congr (fun j hj => ?_)
    have hj' := List.mem_range.1 hj
    have : id j ≠ c := fun h => by have := hinj j m (by omega) (by omega) (by rw [h, e]); omega
    simp only [this, if_false]
   rw [this]
   simp only [e, if_true]
   omega
  ·have := ih (fun i j h1 h2 h3 => hinj i j (by omega) (by omega) h3)
   simp only [e, if_false]
   omega
theorem sm_range_succ (f : Nat → Int) (m : Nat) : sm f (List.range (m + 1)) = sm f (List.range m) + f m := by
 rw [List.range_succ, sm_append, sm_cons, sm_nil]; omega
structure CarryAt (p : List PI) (c : Nat → Int) (m : Nat) (s : List Int) : Prop where
 len : s.length = p.length
 nn : ∀ j, j < p.length → 0 ≤ fz s j
 eq : ∀ j, j < p.length → fz s j = (if m ≤ j then c j else 0) + sm (fz s) ((kidsAt p p.length j).filter (fun k => decide (m ≤ k)))
 tot : sm (fz s) (List.range m) ≤ 100000 * ((p.length - m : Nat) : Int)
 done : ∀ j, m ≤ j → j < p.length → fz s j ≤ 100000 * ((p.length - m : Nat) : Int)
section
variable {p : List PI} {c : Nat → Int}
theorem carry_step (hok : okL p) (hcb : ∀ j, 0 ≤ c j ∧ c j ≤ 65535) {i : Nat} {s s' : List Int} (hi : i < p.length) (h : CarryAt p c (i + 1) s) (hl : s'.length = p.length)
  (hs : ∀ j, j < p.length → fz s' j = if j = i then fz s i + c i else if j < i ∧ idP p j = abP p i then fz s j + (fz s i + c i) else fz s j) : CarryAt p c i s' := by
 have hci := hcb i
 have hni := h.nn i hi
 have htot0 := h.tot
 rw [sm_range_succ] at htot0
 have hnn0 : 0 ≤ sm (fz s) (List.range i) := sm_nonneg (fun k hk => h.nn k (by have := List.mem_range.1 hk; omega))
 have hsi : fz s' i = fz s i + c i := by rw [hs i hi, if_pos rfl]
 have hge : ∀ j, j < p.length → i < j → fz s' j = fz s j := fun j hj hij => by rw [hs j hj, if_neg (by omega), if_neg (fun hh => by omega)]
 have hlt : ∀ j, j < i → fz s' j = if idP p j = abP p i then fz s j + (fz s i + c i) else fz s j := fun j hj => by
  rw [hs j (by omega), if_neg (by omega)]
  by_cases e : idP p j = abP p i
  ·rw [if_pos ⟨hj, e⟩, if_pos e]
  ·rw [if_neg (fun hh => e hh.2), if_neg e]
 have hkid : ∀ j k, k ∈ kidsAt p p.length j → j < k := fun j k hk => (kidsAt_mem.1 hk).2.1
 have hnd : ∀ j, (kidsAt p p.length j).Nodup := fun j => (netT_ok hok).nodup j
 have hlen : ((p.length - i : Nat) : Int) = ((p.length - (i + 1) : Nat) : Int) + 1 := by omega
 refine ⟨hl, fun j hj => ?_, fun j hj => ?_, ?_, fun j h1 h2 => ?_⟩
 ·have := h.nn j hj
  rw [hs j hj]
  split
  ·omega
  ·split <;> omega
 ·
  have hself : i ∉ kidsAt p p.length i := fun hh => by have := hkid i i hh; omega
  have hc : ∀ k ∈ (kidsAt p p.length j).filter (fun k => decide (i + 1 ≤ k)), fz s' k = fz s k := fun k hk => by
   rw [List.mem_filter] at hk
   have h1 := kidsAt_mem.1 hk.1
   exact hge k h1.1 (by have := hk.2; simp at this; omega)
  rw [sm_filter (fz s') i _ (hnd j), sm_congr hc]
  have he := h.eq j hj
  by_cases hji : j = i
  ·subst hji
   rw [if_neg hself, hsi, if_pos (Nat.le_refl _)]
   rw [if_neg (by omega)] at he
   omega
  ·by_cases hlt' : j < i
   ·rw [if_neg (by omega)] at he ⊢
    rw [hlt j hlt', hsi]
    by_cases e : idP p j = abP p i
    ·rw [if_pos e, if_pos (kidsAt_mem.2 ⟨hi, hlt', e.symm⟩)]
     omega
    ·rw [if_neg e, if_neg (fun hh => e (kidsAt_mem.1 hh).2.2.symm)]
     omega
   ·have hgt : i < j := by omega
    rw [if_pos (by omega)] at he ⊢
    rw [hge j hj hgt, if_neg (fun hh => by have := hkid j i hh; omega)]
    omega
 ·have h2 := sm_one_more (idP p) (abP p i) (fz s i + c i) (by omega) (fz s) i (fun a b ha hb e => id_inj (m := p.length) hok (by omega) (by omega) e)
  have h3 : sm (fz s') (List.range i) = sm (fun j => if idP p j = abP p i then fz s j + (fz s i + c i) else fz s j) (List.range i) := sm_congr (fun j hj => hlt j (List.mem_range.1 hj))
  omega
 ·by_cases e : j = i
  ·subst e
   rw [hsi]
   omega
  ·rw [hge j h2 (by omega)]
   have := h.done j (by omega) h2
   omega
theorem carry_end (hok : okL p) {s : List Int} (h : CarryAt p c 0 s) (ss : List Int) (hss : InR p.length ss) (hc : ∀ j, j < p.length → kidsAt p p.length j ≠ [] → 0 ≤ c j ∧ c j ≤ loP (LL p ss) j) {K : List RG} (hK : ∀ j, j < p.length → lo9 K j ≤ fz s j ∧ fz s j ≤ hi9 K j) : Has (LL p ss) K := by
 refine ⟨fz s, fun i hi => ?_, fun i hi hk => ?_⟩
 ·simp only [netT, LL_len] at hi
  exact hK i hi
 ·simp only [netT, LL_len] at hi hk ⊢
  have h1 := LL_kids p ss i hi
  rw [LL_len] at h1
  rw [h1] at hk ⊢
  have h2 := h.eq i hi
  have h3 : (kidsAt p p.length i).filter (fun k => decide (0 ≤ k)) = kidsAt p p.length i := List.filter_eq_self.2 (fun k _ => by simp)
  rw [h3, if_pos (Nat.zero_le _)] at h2
  have h4 := hc i hi hk
  omega
end
def leaksAt (p : List PI) (y : List Bool) (m : Nat) : List Int := (iv m (p.length - m)).filter (fun x => decide (kidsAt p p.length x.toNat ≠ []) && rdOf false y x)
theorem leaksAt_succ (p : List PI) (y : List Bool) {m : Nat} (h : m < p.length) : leaksAt p y m = if kidsAt p p.length m ≠ [] ∧ rdOf false y (m : Int) = true then (m : Int) :: leaksAt p y (m + 1) else leaksAt p y (m + 1) := by
 unfold leaksAt
 rw [show p.length - m = (p.length - (m + 1)) + 1 by omega, iv]
 by_cases c : kidsAt p p.length m ≠ [] ∧ rdOf false y (m : Int) = true
 ·rw [if_pos c, List.filter_cons_of_pos (by rw [Int.toNat_natCast, decide_eq_true c.1, c.2]; rfl)]
  rfl
 ·rw [if_neg c, List.filter_cons_of_neg (by rw [Int.toNat_natCast, Bool.and_eq_true, decide_eq_true_eq]; exact c)]
  rfl
theorem leaksAt_mem (p : List PI) (y : List Bool) (j : Nat) (hj : j < p.length) : (j : Int) ∈ leaksAt p y 0 ↔ kidsAt p p.length j ≠ [] ∧ rdOf false y (j : Int) = true := by
 unfold leaksAt
 rw [List.mem_filter, iv_mem, Int.toNat_natCast, Bool.and_eq_true, decide_eq_true_eq]
 exact ⟨fun h => h.2, fun h => ⟨by omega, h⟩⟩
theorem leaksAt_len (p : List PI) (y : List Bool) (m : Nat) : (leaksAt p y m).length ≤ p.length - m := by
 unfold leaksAt
 have := List.length_filter_le (fun x => decide (kidsAt p p.length x.toNat ≠ []) && rdOf false y x) (iv (m : Int) (p.length - m))
 rwa [iv_len] at this
def extra (p : List PI) (y : List Bool) (e t : List Int) (j : Nat) : Int :=
 if kidsAt p p.length j = [] then fz e j else if rdOf false y (j : Int) = true then fz t j else Int.tmod (fz t j) (loP p j + 1)
def knownK (x a : List Int) (j : Nat) : RG := ⟨max 0 (fz x j - Int.tmod (fz a j) 4), fz x j + Int.tdiv (fz a j) 4 % 256⟩
section
variable {p : List PI} {y : List Bool} {e t a : List Int}
theorem truth_end (hl : p.length ≤ 12) (hok : okL p) (ha : ∀ x ∈ a, 0 ≤ x ∧ x ≤ 255) (hal : p.length ≤ a.length) (hcb : ∀ j, 0 ≤ extra p y e t j ∧ extra p y e t j ≤ 65535) (hcl : ∀ j, j < p.length → kidsAt p p.length j ≠ [] → rdOf false y (j : Int) = false → extra p y e t j ≤ loP p j)
  {s : List Int} (h : CarryAt p (extra p y e t) 0 s) : Ev (fun k => cohousinglaw30_LeakTruth.l1 k p a true ((leaksAt p y 0).length : Int) ((List.range p.length).map (knownK s a)) s (s.length : Int) (s.length : Int)) true := by
 have hlen := h.len
 obtain ⟨K, hK⟩ : ∃ K, K = (List.range p.length).map (knownK s a) := ⟨_, rfl⟩
 rw [← hK]
 have hKr : ∀ j, j < p.length → rr K j = knownK s a j := fun j hj => by rw [hK, rr_map (knownK s a) _ _ hj]
 have hKl : K.length = p.length := by rw [hK]; simp
 have hab : ∀ j, j < p.length → 0 ≤ fz a j ∧ fz a j ≤ 255 := fun j hj => ha _ (by rw [fz, rd_at a j (by omega)]; exact List.getElem_mem _)
 have hrng : ∀ j, j < p.length → 0 ≤ lo9 K j ∧ lo9 K j ≤ fz s j ∧ fz s j ≤ hi9 K j ∧ hi9 K j ≤ 1000000000 := fun j hj => by
  unfold lo9 hi9
  rw [hKr j hj]
  have h1 := h.nn j hj
  have h2 := h.done j (Nat.zero_le _) hj
  have h3 := hab j hj
  have h4 : 0 ≤ Int.tmod (fz a j) 4 := Int.tmod_nonneg 4 h3.1
  simp only [knownK]
  omega
 have hg : Good p K := ⟨hok, by omega, hKl, fun j hj => by have := hrng j hj; omega⟩
 have hin : InR p.length (leaksAt p y 0) := fun x hx => by
  have := (List.mem_filter.1 hx).1
  rw [iv_mem] at this
  omega
 have hlla := leaksAt_len p y 0
 refine Ev.step ?_
 have h1 : ¬ ((s.length : Int) < (s.length : Int)) := by omega
 by_cases c3 : ((leaksAt p y 0).length : Int) > 3
 ·simp only [cohousinglaw30_LeakTruth.l1, h1, c3, if_true, if_false]
  exact Ev.pure _
 have hU : U p K ((leaksAt p y 0).length : Int) := ⟨hl, by omega, hg, by omega, by omega⟩
 have hasc : (leaksAt p y 0) ∈ combos (iv 0 p.length) (leaksAt p y 0).length := mem_combos.2 ⟨rfl, by
  have h9 : (leaksAt p y 0).Sublist (iv ((0 : Nat) : Int) (p.length - 0)) := List.filter_sublist
  exact h9⟩
 have hex : leaksAt p y 0 ∈ exs p K (leaksAt p y 0).length := List.mem_filter.2 ⟨hasc, by
  rw [ex_iff hg hin]
  refine carry_end hok h (leaksAt p y 0) hin (fun j hj hk => ⟨(hcb j).1, ?_⟩) (fun j hj => by have := hrng j hj; omega)
  rw [LL_loP p _ j hj]
  by_cases hm : (j : Int) ∈ leaksAt p y 0
  ·rw [if_pos hm]
   have := (hcb j).2
   omega
  ·rw [if_neg hm]
   refine hcl j hj hk ?_
   cases hb : rdOf false y (j : Int) with
   | false => rfl
   | true => exact absurd ((leaksAt_mem p y j hj).2 ⟨hk, hb⟩) hm⟩
 simp only [cohousinglaw30_LeakTruth.l1, h1, c3, if_true, if_false]
 rw [leakExplain_f p K _ (by omega) (by omega)]
 simp only [Option.bind_some]
 have ht := told hU
 generalize explainR p K ((leaksAt p y 0).length : Int) = x at ht
 generalize sureR p K ((leaksAt p y 0).length : Int) = z at ht
 cases ht with
 | none hno => rw [hno _ (Int.le_refl _)] at hex; cases hex
 | some t' s' rest' g1 g2 g3 =>
  have hs := exs_len (show s' ∈ exs p K t' by rw [g2]; simp)
  have h5 : (s'.length : Int) ≤ ((leaksAt p y 0).length : Int) := by omega
  simp only [if_true, h5]
  refine Ev.bnd (lawExplains_f p K s' hl (by omega) (by omega)) ?_
  rw [decide_eq_true (exs_of_len (show s' ∈ exs p K t' by rw [g2]; simp))]
  exact Ev.pure _
theorem truth_l1 (hl : p.length ≤ 12) (hok : okL p) (ha : ∀ x ∈ a, 0 ≤ x ∧ x ≤ 255) (hal : p.length ≤ a.length) (hcb : ∀ j, 0 ≤ extra p y e t j ∧ extra p y e t j ≤ 65535) (hcl : ∀ j, j < p.length → kidsAt p p.length j ≠ [] → rdOf false y (j : Int) = false → extra p y e t j ≤ loP p j)
  {s : List Int} (h : CarryAt p (extra p y e t) 0 s) : ∀ d i : Nat, i + d = p.length → Ev (fun k => cohousinglaw30_LeakTruth.l1 k p a true ((leaksAt p y 0).length : Int) ((List.range i).map (knownK s a)) s (s.length : Int) (i : Int)) true := by
 have hlen := h.len
 intro d
 induction d with
 | zero =>
  intro i hi
  have e : i = p.length := by omega
  rw [e, show ((p.length : Nat) : Int) = (s.length : Int) by omega]
  exact truth_end hl hok ha hal hcb hcl h
 | succ d ih =>
  intro i hi
  refine Ev.step ?_
  have h1 : (i : Int) < (s.length : Int) := by omega
  have h2 : (0 : Int) ≤ (i : Int) := by omega
  have h3 : (i : Int) < (a.length : Int) := by omega
  have h4 : ((List.range i).map (knownK s a)).length < 8796093022208 := by rw [List.length_map, List.length_range]; omega
  simp only [cohousinglaw30_LeakTruth.l1, h1, h2, h3, h4, if_true, wrap_nat (show i ≤ 140737488355328 by omega)]
  have hb : 0 ≤ fz a i ∧ fz a i ≤ 255 := ha _ (by rw [fz, rd_at a i (by omega)]; exact List.getElem_mem _)
  have hx := h.nn i (by omega)
  have hx2 := h.done i (Nat.zero_le _) (by omega)
  have hm1 : 0 ≤ Int.tmod (fz a i) 4 := Int.tmod_nonneg 4 hb.1
  have hm2 : Int.tmod (fz a i) 4 < 4 := Int.tmod_lt_of_pos _ (by decide)
  have e1 : wrap64 (Int.tmod (rd a (i : Int)) 4) = Int.tmod (fz a i) 4 := by show wrap64 (Int.tmod (fz a i) 4) = _; unfold wrap64; omega
  have e2 : mx 0 (wrap64 (rd s (i : Int) - Int.tmod (fz a i) 4)) = max 0 (fz s i - Int.tmod (fz a i) 4) := by
   rw [mx_max]
   show max 0 (wrap64 (fz s i - Int.tmod (fz a i) 4)) = _
   rw [show wrap64 (fz s i - Int.tmod (fz a i) 4) = fz s i - Int.tmod (fz a i) 4 by unfold wrap64; omega]
  have e3 : wrap64 (rd s (i : Int) + Int.tdiv (rd a (i : Int)) 4 % 256) = fz s i + Int.tdiv (fz a i) 4 % 256 := by
   show wrap64 (fz s i + Int.tdiv (fz a i) 4 % 256) = _
   unfold wrap64
   omega
  rw [e1, e2, e3]
  have := ih (i + 1) (by omega)
  rw [List.range_succ, List.map_append] at this
  exact this
theorem fz_len (s : List Int) (j : Nat) (h : s.length ≤ j) : fz s j = 0 := by simp [fz, rd, List.getD_eq_getElem?_getD, List.getElem?_eq_none h]
theorem fz_bd {s : List Int} {B : Int} (hB : 0 ≤ B) (h : ∀ x ∈ s, 0 ≤ x ∧ x ≤ B) (j : Nat) : 0 ≤ fz s j ∧ fz s j ≤ B := by
 by_cases hj : j < s.length
 ·rw [fz, rd_at s j hj]
  exact h _ (List.getElem_mem hj)
 ·rw [fz_len s j (by omega)]
  omega
theorem tmod_le {a b : Int} (ha : 0 ≤ a) (hb : 0 ≤ b) : 0 ≤ Int.tmod a b ∧ Int.tmod a b ≤ a := by
 obtain ⟨n, rfl⟩ := Int.eq_ofNat_of_zero_le ha
 obtain ⟨m, rfl⟩ := Int.eq_ofNat_of_zero_le hb
 rw [← Int.ofNat_tmod]
 have := Nat.mod_le n m
 omega
theorem truth_next (hok : okL p) (hn : p.length ≤ 12) {c : Nat → Int} (hcb : ∀ j, 0 ≤ c j ∧ c j ≤ 65535) {i : Nat} (hi : i < p.length) {x : List Int} (h : CarryAt p c (i + 1) x) (g : Nat → List Int → Option Bool) (hg : ∀ s', CarryAt p c i s' → Ev (fun k => g k s') true) :
  Ev (fun k => (cohousingref28_At.f k p (abP p i)).bind fun v => if v ≥ 0 then (if 0 ≤ v then (if v < (x.length : Int) then g k ((x.set i (fz x i + c i)).set v.toNat (wrap64 (rd (x.set i (fz x i + c i)) v + rd (x.set i (fz x i + c i)) (i : Int)))) else none) else none) else g k (x.set i (fz x i + c i))) true := by
 have hxl := h.len
 have hsi : fz (x.set i (fz x i + c i)) i = fz x i + c i := by rw [fz_set _ _ _ _ (by omega), if_pos rfl]
 have hci := hcb i
 obtain ⟨v, hv, hs⟩ := atg_f p (abP p i) (by omega)
 refine Ev.bnd hv ?_
 rcases hs with ⟨rfl, hno⟩ | ⟨j, hj, rfl, he⟩
 ·have h1 : ¬ ((-1 : Int) ≥ 0) := by omega
  simp only [h1, if_false]
  refine hg _ (carry_step hok hcb hi h (by rw [List.length_set, hxl]) fun q hq => ?_)
  rw [fz_set _ _ _ _ (by omega)]
  by_cases e : q = i
  ·rw [if_pos e.symm, if_pos e]
  ·rw [if_neg (fun h => e h.symm), if_neg e, if_neg (fun h => hno q hq h.2)]
 ·have h1 : (j : Int) ≥ 0 := by omega
  have h1' : (0 : Int) ≤ (j : Int) := by omega
  have h2 : (j : Int) < (x.length : Int) := by omega
  simp only [h1, h1', h2, if_true, Int.toNat_natCast]
  have hji : j < i := by
   have h3 := hok i hi
   have h4 := hok j hj
   obtain ⟨q, hq, e⟩ := h3.2.2.2 (by rw [← he]; have := h4.1; omega)
   have := id_inj (m := p.length) hok (by omega) hj (e.trans he.symm)
   omega
  have hsj : fz (x.set i (fz x i + c i)) j = fz x j := by rw [fz_set _ _ _ _ (by omega), if_neg (by omega)]
  have hb1 := h.nn i hi
  have hb2 := h.nn j hj
  have hsum : fz x j ≤ 100000 * 12 + 100000 ∧ fz x i ≤ 100000 * 12 + 100000 := by
   have h3 := h.tot
   have h4 : fz x j ≤ sm (fz x) (List.range (i + 1)) := sm_ge (fun k hk => h.nn k (by have := List.mem_range.1 hk; omega)) (List.mem_range.2 (by omega))
   have h5 : fz x i ≤ sm (fz x) (List.range (i + 1)) := sm_ge (fun k hk => h.nn k (by have := List.mem_range.1 hk; omega)) (List.mem_range.2 (by omega))
   omega
  have hw : wrap64 (rd (x.set i (fz x i + c i)) (j : Int) + rd (x.set i (fz x i + c i)) (i : Int)) = fz x j + (fz x i + c i) := by
   show wrap64 (fz (x.set i (fz x i + c i)) j + fz (x.set i (fz x i + c i)) i) = _
   rw [hsj, hsi]
   unfold wrap64
   omega
  rw [hw]
  refine hg _ (carry_step hok hcb hi h (by rw [List.length_set, List.length_set, hxl]) fun q hq => ?_)
  rw [fz_set _ _ _ _ (by rw [List.length_set]; omega), fz_set _ _ _ _ (by omega)]
  by_cases e : q = i
  ·rw [if_neg (by omega), if_pos e.symm, if_pos e]
  ·by_cases e2 : j = q
   ·subst e2
    rw [if_pos rfl, if_neg e, if_pos ⟨hji, he⟩]
   ·rw [if_neg e2, if_neg (fun h => e h.symm), if_neg e, if_neg (fun h => e2 (id_inj (m := p.length) hok hj hq (he.trans h.2.symm)))]
theorem truth_l0 (hl : p.length ≤ 12) (hok : okL p) (he : ∀ x ∈ e, 0 ≤ x ∧ x ≤ 65535) (ht : ∀ x ∈ t, 0 ≤ x ∧ x ≤ 65535) (ha : ∀ x ∈ a, 0 ≤ x ∧ x ≤ 255) (hyl : p.length ≤ y.length) (hel : p.length ≤ e.length) (htl : p.length ≤ t.length) (hal : p.length ≤ a.length) : ∀ m : Nat, m ≤ p.length → ∀ x : List Int, CarryAt p (extra p y e t) m x →
  Ev (fun k => cohousinglaw30_LeakTruth.l0 k p y e t a true x ((leaksAt p y m).length : Int) ((m : Int) - 1)) true := by
 have hlo : ∀ j, j < p.length → 0 ≤ loP p j ∧ loP p j ≤ 1000000000 := fun j hj => (hok j hj).2.2.1
 have hlo0 : ∀ j, 0 ≤ loP p j := fun j => by
  by_cases hj : j < p.length
  ·exact (hlo j hj).1
  ·have : rd_T44 p (j : Int) = z44 := by simp [rd_T44, List.getD_eq_getElem?_getD, List.getElem?_eq_none (by omega : p.length ≤ j)]
   show 0 ≤ (rd_T44 p (j : Int)).f2
   rw [this]
   decide
 have hcb : ∀ j, 0 ≤ extra p y e t j ∧ extra p y e t j ≤ 65535 := fun j => by
  have h1 := fz_bd (by decide) he j
  have h2 := fz_bd (by decide) ht j
  have h3 := hlo0 j
  have h4 := tmod_le (b := loP p j + 1) h2.1 (by omega)
  unfold extra
  split
  ·exact h1
  ·split
   ·exact h2
   ·omega
 have hcl : ∀ j, j < p.length → kidsAt p p.length j ≠ [] → rdOf false y (j : Int) = false → extra p y e t j ≤ loP p j := fun j hj hk hb => by
  unfold extra
  rw [if_neg hk, if_neg (by rw [hb]; decide)]
  have h1 := Int.tmod_lt_of_pos (fz t j) (show 0 < loP p j + 1 by have := hlo j hj; omega)
  omega
 intro m
 induction m with
 | zero =>
  intro _ x hx
  refine Ev.step ?_
  have h1 : ¬ (((0 : Nat) : Int) - 1 ≥ 0) := by omega
  simp only [cohousinglaw30_LeakTruth.l0, h1, if_false]
  exact truth_l1 hl hok ha hal hcb hcl hx p.length 0 (by omega)
 | succ i ih =>
  intro hi x hx
  refine Ev.step ?_
  rw [show ((i + 1 : Nat) : Int) - 1 = (i : Int) by omega]
  have hil : i < p.length := by omega
  have hxl := hx.len
  have hci := hcb i
  have h1 : (i : Int) ≥ 0 := by omega
  have h1' : (0 : Int) ≤ (i : Int) := by omega
  have h2 : (i : Int) < (e.length : Int) := by omega
  have h3 : (i : Int) < (x.length : Int) := by omega
  have h4 : (i : Int) < (p.length : Int) := by omega
  have h5 : (i : Int) < (y.length : Int) := by omega
  have h6 : (i : Int) < (t.length : Int) := by omega
  have h7 : wrap64 ((i : Int) - 1) = (i : Int) - 1 := by unfold wrap64; omega
  have hxi := hx.nn i hil
  have hsum : fz x i ≤ 100000 * 12 + 100000 := by
   have g3 := hx.tot
   have g5 : fz x i ≤ sm (fz x) (List.range (i + 1)) := sm_ge (fun k hk => hx.nn k (by have := List.mem_range.1 hk; omega)) (List.mem_range.2 (by omega))
   omega
  have hfe := fz_bd (by decide) he i
  have hft := fz_bd (by decide) ht i
  have hlen2 := leaksAt_len p y (i + 1)
  have hll := leaksAt_succ p y hil
  have hih := ih (by omega)
  simp only [cohousinglaw30_LeakTruth.l0, h1, if_true]
  refine Ev.bnd (leaf_ev p (by omega) i hil) ?_
  by_cases hk : kidsAt p p.length i = []
  ·rw [if_neg (fun h => h.1 hk)] at hll
   rw [← hll, decide_eq_true hk]
   have hx0 : fz x i = 0 := by
    have := hx.eq i hil
    rw [hk, if_neg (by omega)] at this
    simpa [sm_nil] using this
   have hv : wrap64 (rd e (i : Int)) = fz x i + extra p y e t i := by
    rw [hx0]
    unfold extra
    rw [if_pos hk]
    show wrap64 (fz e i) = _
    unfold wrap64
    omega
   simp only [if_true, h1', h2, h3, h4, h7, Option.bind_some, Int.toNat_natCast, hv]
   exact truth_next hok hl hcb hil hx (fun k s' => cohousinglaw30_LeakTruth.l0 k p y e t a true s' ((leaksAt p y i).length : Int) ((i : Int) - 1)) hih
  ·rw [decide_eq_false hk]
   simp only [Bool.false_eq_true, if_false, h1', h5, if_true]
   cases hb : rdOf false y (i : Int) with
   | true =>
    rw [if_pos ⟨hk, hb⟩] at hll
    have hw2 : wrap64 (((leaksAt p y (i + 1)).length : Int) + 1) = ((leaksAt p y i).length : Int) := by rw [hll, List.length_cons]; unfold wrap64; omega
    have hv : wrap64 (rd x (i : Int) + wrap64 (rd t (i : Int))) = fz x i + extra p y e t i := by
     unfold extra
     rw [if_neg hk, if_pos hb]
     show wrap64 (fz x i + wrap64 (fz t i)) = _
     unfold wrap64
     omega
    simp only [if_true, h3, h4, h6, h7, hw2, Option.bind_some, Int.toNat_natCast, hv]
    exact truth_next hok hl hcb hil hx (fun k s' => cohousinglaw30_LeakTruth.l0 k p y e t a true s' ((leaksAt p y i).length : Int) ((i : Int) - 1)) hih
   | false =>
    rw [if_neg (fun h => by rw [hb] at h; exact absurd h.2 (by decide))] at hll
    rw [← hll]
    have hlo1 := hlo i hil
    have hw3 : wrap64 ((rd_T44 p (i : Int)).f2 + 1) = loP p i + 1 := by show wrap64 (loP p i + 1) = _; unfold wrap64; omega
    have hw4 : ¬ (loP p i + 1 = 0) := by omega
    have hv : wrap64 (rd x (i : Int) + Int.tmod (wrap64 (rd t (i : Int))) (loP p i + 1)) = fz x i + extra p y e t i := by
     have e1 : extra p y e t i = Int.tmod (fz t i) (loP p i + 1) := by
      unfold extra
      rw [if_neg hk, if_neg (by rw [hb]; decide)]
     have e2 : wrap64 (rd t (i : Int)) = fz t i := by show wrap64 (fz t i) = _; unfold wrap64; omega
     rw [e2, ← e1]
     show wrap64 (fz x i + extra p y e t i) = _
     unfold wrap64
     omega
    simp only [Bool.false_eq_true, if_false, if_true, h3, h4, h6, h7, hw3, hw4, Option.bind_some, Int.toNat_natCast, hv]
    exact truth_next hok hl hcb hil hx (fun k s' => cohousinglaw30_LeakTruth.l0 k p y e t a true s' ((leaksAt p y i).length : Int) ((i : Int) - 1)) hih
theorem truth_ (l : List PI) (y : List Bool) (e t a : List Int) (hl : l.length ≤ 5864062014805) (he : ∀ x ∈ e, 0 ≤ x ∧ x ≤ 65535) (ht : ∀ x ∈ t, 0 ≤ x ∧ x ≤ 65535) (ha : ∀ x ∈ a, 0 ≤ x ∧ x ≤ 255) : Ev (fun k => cohousinglaw30_LeakTruth.f k l y e t a) true := by
 have hout : Ev (fun k => cohousinglaw30_LeakTruth.j0 k l y e t a true true) true := by
  refine Ev.step ?_
  simp only [cohousinglaw30_LeakTruth.j0, if_true]
  exact Ev.pure _
 unfold cohousinglaw30_LeakTruth.f
 refine Ev.bnd head30 ?_
 by_cases c1 : (l.length : Int) > 12
 ·simp only [c1, if_true]; exact hout
 simp only [c1, if_false]
 refine Ev.bnd (valid_f l (by omega)) ?_
 by_cases c2 : okL l ∧ l.length ≤ 200
 case neg => simp only [decide_eq_false c2, Bool.false_eq_true, if_false]; exact hout
 simp only [decide_eq_true c2, if_true]
 by_cases c3 : (y.length : Int) < (l.length : Int)
 ·simp only [c3, if_true]; exact hout
 simp only [c3, if_false]
 by_cases c4 : (e.length : Int) < (l.length : Int)
 ·simp only [c4, if_true]; exact hout
 simp only [c4, if_false]
 by_cases c5 : (t.length : Int) < (l.length : Int)
 ·simp only [c5, if_true]; exact hout
 simp only [c5, if_false]
 by_cases c6 : (a.length : Int) < (l.length : Int)
 ·rw [decide_eq_true c6]; exact hout
 rw [decide_eq_false c6]
 refine Ev.step ?_
 have g1 : (0 : Int) ≤ (l.length : Int) := by omega
 have g2 : l.length ≤ 35184372088832 := by omega
 have g3 : wrap64 ((l.length : Int) - 1) = (l.length : Int) - 1 := by unfold wrap64; omega
 simp only [cohousinglaw30_LeakTruth.j0, Bool.false_eq_true, if_false, g1, if_true, Int.toNat_natCast, g2, g3]
 have hz : ∀ j, fz (List.replicate l.length 0) j = 0 := fun j => by
  simp only [fz, rd, Int.toNat_natCast, List.getD_eq_getElem?_getD, List.getElem?_replicate]
  split <;> rfl
 have h0 : CarryAt l (extra l y e t) l.length (List.replicate l.length 0) := by
  refine ⟨by simp, fun j _ => by rw [hz]; exact Int.le_refl _, fun j hj => ?_, ?_, fun j h1 h2 => by omega⟩
  ·have : (kidsAt l l.length j).filter (fun k => decide (l.length ≤ k)) = [] := List.filter_eq_nil_iff.2 fun k hk => by have := (kidsAt_mem.1 hk).1; simp; omega
   rw [this, if_neg (by omega), hz]
   rfl
  ·have h1 : sm (fz (List.replicate l.length 0)) (List.range l.length) = sm (fun _ => 0) (List.range l.length) := sm_congr (fun j _ => hz j)
   have h2 : ∀ ks : List Nat, sm (fun _ => 0) ks = 0 := fun ks => by
    induction ks with
    | nil => rfl
    | cons k ks ih => rw [sm_cons, ih]; rfl
   rw [h1, h2, Nat.sub_self]
   decide
 have := truth_l0 (p := l) (y := y) (e := e) (t := t) (a := a) (by omega) c2.1 he ht ha (by omega) (by omega) (by omega) (by omega) l.length (Nat.le_refl _) _ h0
 have e0 : leaksAt l y l.length = [] := by unfold leaksAt; rw [Nat.sub_self]; rfl
 rw [e0] at this
 exact this
end
end Go.Proofs.Ytolmjhpapidmhaa.P
end
section
namespace Go.Proofs.YtolmjhpapidmhaaH
open Go.RowKit Go.ChangeShapes Go.WideShapes Go.Proofs.YtolmjhpapidmhaaW.PrintWords
theorem Opens.bool {P : Program} {t : TypeId} (h : P.underlying t = some .bool) : Opens P Kd.bool t := by
 intro H enc w base spare held fuel cs x hx
 obtain ⟨b, rfl, _⟩ := DataW.trod_bool h hx
 exact ⟨b, rfl⟩
theorem Opens.intR {P : Program} {t : TypeId} {k : IntKind} (lo hi : Int) (hwf : ∀ {n : Int}, (Lit.int k n).wf = true → lo ≤ n ∧ n ≤ hi) (h : P.underlying t = some (.int k)) : Opens P (Kd.iso (Kd.int k) (fun x : {n : Int // lo ≤ n ∧ n ≤ hi} => x.1)) t := by
 intro H enc w base spare held fuel cs x hx
 obtain ⟨n, rfl, _, hw⟩ := DataW.trod_int h hx
 exact ⟨⟨n, hwf hw⟩, rfl⟩
theorem C_val {α : Type} {d : Kd α} {Q : α → Prop} {w : World} {A : Option Addr} {n : Nat} {xs : List {a : α // Q a}} (h : (Kd.iso d (fun x : {a : α // Q a} => x.1)).C w A n xs) : d.C w A n (xs.map (·.1)) := by
 refine ⟨by rw [List.length_map]; exact h.1, h.2.1, fun hn => ?_⟩
 obtain ⟨ad, e, hj⟩ := h.2.2 hn
 refine ⟨ad, e, fun j q hq => ?_⟩
 rw [List.getElem?_map] at hq
 obtain ⟨p, hp, rfl⟩ := Option.map_eq_some_iff.1 hq
 exact hj j p hp
theorem open_rng {P : Program} {t e : TypeId} {k : IntKind} (lo hi : Int) (hwf : ∀ {n : Int}, (Lit.int k n).wf = true → lo ≤ n ∧ n ≤ hi) (ht : P.underlying t = some (.slice e)) (hu : P.underlying e = some (.int k)) (hsz : P.cellsOf e = 1) {H : Type} {enc : TypeId × Value → H} {w : World} {base : Nat} {spare : Nat → Bool} {held : Bool} {A : Option Addr} {len cap : Nat} {x : DataW H} {ps : List MemPlace}
  (hx : DataW.Trod enc P w base spare held t (.slice A len cap) x ps) : ∃ xs : List Int, xs.length = len ∧ len ≤ cap ∧ (Kd.int k).C w A len xs ∧ ∀ x ∈ xs, lo ≤ x ∧ x ≤ hi := by
 obtain ⟨xs, h1, h2, h3⟩ := open_arg (d := Kd.iso (Kd.int k) (fun x : {n : Int // lo ≤ n ∧ n ≤ hi} => x.1)) ht hsz (Opens.intR lo hi hwf hu) hx
 refine ⟨xs.map (·.1), by rw [List.length_map]; exact h1, h2, C_val h3, fun x hx => ?_⟩
 obtain ⟨y, _, rfl⟩ := List.mem_map.1 hx
 exact y.2
end Go.Proofs.YtolmjhpapidmhaaH
end
