/- Part 1 of the proof of FlowSums: what it alone needs. -/
import Derived.Test.YtmojlpafpeeelaaCBd
set_option linter.unusedVariables false
set_option linter.unusedSimpArgs false
section
namespace Go.Proofs.Ytmojlpafpeeelaa.P
open Go.RowKit Go.Proofs.YtmojlpafpeeelaaW.PrintWords Go.Proofs.YtmojlpafpeeelaaW.PrintLast Go.Proofs.YtmojlpafpeeelaaW.PrintMore
attribute [local go_sem] max2_int min2_int max_two min_two max_three min_three max_four min_four
set_option linter.unusedVariables false
set_option linter.unusedSimpArgs false
mutual
def cohousinglaw28_FlowSums.j0 : Nat → List (S44) → List (S39) → List (S39) → List Int → List Int → Bool → Bool → Option (Bool)
 | 0, _, _, _, _, _, _, _ => none
 | k + 1, x0, x1, x2, x3, x4, x11, x54 => if x54 = true then (some x11) else ((some (([] : List (S44)) : List (S44))).bind fun y408 => (if y408.length + x0.length < 5864062014805 then (cohousinglaw28_FlowSums.l0 k x0 x1 x2 x3 x4 x11 (y408 ++ x0) ([] : List Int) (x0.length : Int) 0) else (none)))
def cohousinglaw28_FlowSums.l0 : Nat → List (S44) → List (S39) → List (S39) → List Int → List Int → Bool → List (S44) → List Int → Int → Int → Option (Bool)
 | 0, _, _, _, _, _, _, _, _, _, _ => none
 | k + 1, x0, x1, x2, x3, x4, x11, x12, x13, x60, x61 => if x61 < x60 then (if 0 ≤ x61 then (if x61 < (x0.length : Int) then (if ((rd_T44 x0 x61).f2) > 500000000 then (some x11) else (if x61 < (x1.length : Int) then (if ((rd_T39 x1 x61).f1) > 500000000 then (some x11) else (if x61 < (x2.length : Int) then (if ((rd_T39 x2 x61).f1) > 500000000 then (some x11) else (if x61 < (x12.length : Int) then (if x61 < (x3.length : Int) then (if x61 < (x4.length : Int) then (if x13.length < 17592186044416 then (cohousinglaw28_FlowSums.l0 k x0 x1 x2 x3 x4 x11 (x12.set (x61 : Int).toNat (⟨(rd_T44 x12 x61).f0, (rd_T44 x12 x61).f1, wrap64 (2 * ((rd_T44 x0 x61).f2))⟩ : S44)) (x13 ++ [wrap64 ((rd x3 x61) + (rd x4 x61))]) x60 (wrap64 (x61 + 1))) else (none)) else (none)) else (none)) else (none))) else (none))) else (none))) else (none)) else (none)) else ((cohousingref28_Add.f k x1 x2).bind fun t424 => ((cohousinglaw28_consistent.f x12 t424 x13).bind fun t427 => (if t427 = true then ((flow_Bounds.f x0 x1).bind fun bt428 => ((flow_Bounds.f x0 x2).bind fun bt432 => ((flow_Bounds.f x12 t424).bind fun bt436 => (if bt428.2 = 0 then (if bt432.2 = 0 then (if bt436.2 = 0 then (if (bt428.1.length : Int) = (x0.length : Int) then (if (bt432.1.length : Int) = (x0.length : Int) then (cohousinglaw28_FlowSums.j2 k x0 x11 bt428.1 bt432.1 bt436.1 ((bt436.1.length : Int) != (x0.length : Int))) else (cohousinglaw28_FlowSums.j2 k x0 x11 bt428.1 bt432.1 bt436.1 true)) else (cohousinglaw28_FlowSums.j2 k x0 x11 bt428.1 bt432.1 bt436.1 true)) else (cohousinglaw28_FlowSums.j2 k x0 x11 bt428.1 bt432.1 bt436.1 true)) else (cohousinglaw28_FlowSums.j2 k x0 x11 bt428.1 bt432.1 bt436.1 true)) else (cohousinglaw28_FlowSums.j2 k x0 x11 bt428.1 bt432.1 bt436.1 true))))) else (some false))))
def cohousinglaw28_FlowSums.j2 : Nat → List (S44) → Bool → List (S39) → List (S39) → List (S39) → Bool → Option (Bool)
 | 0, _, _, _, _, _, _ => none
 | k + 1, x0, x11, x16, x18, x20, x166 => if x166 = true then (some false) else (cohousinglaw28_FlowSums.l1 k x11 x16 x18 x20 (x0.length : Int) 0)
def cohousinglaw28_FlowSums.l1 : Nat → Bool → List (S39) → List (S39) → List (S39) → Int → Int → Option (Bool)
 | 0, _, _, _, _, _, _ => none
 | k + 1, x11, x16, x18, x20, x168, x169 => if x169 < x168 then (if x11 = true then (if 0 ≤ x169 then (if x169 < (x20.length : Int) then (if x169 < (x16.length : Int) then (if x169 < (x18.length : Int) then (if ((rd_T39 x20 x169).f0) ≤ (wrap64 (((rd_T39 x16 x169).f0) + ((rd_T39 x18 x169).f0))) then (cohousinglaw28_FlowSums.l1 k (decide ((wrap64 (((rd_T39 x16 x169).f1) + ((rd_T39 x18 x169).f1))) ≤ ((rd_T39 x20 x169).f1))) x16 x18 x20 x168 (wrap64 (x169 + 1))) else (cohousinglaw28_FlowSums.l1 k false x16 x18 x20 x168 (wrap64 (x169 + 1)))) else (none)) else (none)) else (none)) else (none)) else (cohousinglaw28_FlowSums.l1 k false x16 x18 x20 x168 (wrap64 (x169 + 1)))) else (some x11)
end
def cohousinglaw28_FlowSums.f (k : Nat) (l0 : List (S44)) (l1 : List (S39)) (l2 : List (S39)) (l3 : List Int) (l4 : List Int) : Option (Bool) := (cohousinglaw28_head.f k).bind fun t405 => (if (l0.length : Int) > 40 then (cohousinglaw28_FlowSums.j0 k l0 l1 l2 l3 l4 t405 true) else ((cohousinglaw28_consistent.f l0 l1 l3).bind fun t406 => (if t406 = true then ((cohousinglaw28_consistent.f l0 l2 l4).bind fun t407 => (if t407 = true then (if (l3.length : Int) = (l0.length : Int) then (cohousinglaw28_FlowSums.j0 k l0 l1 l2 l3 l4 t405 ((l4.length : Int) != (l0.length : Int))) else (cohousinglaw28_FlowSums.j0 k l0 l1 l2 l3 l4 t405 true)) else (cohousinglaw28_FlowSums.j0 k l0 l1 l2 l3 l4 t405 true))) else (cohousinglaw28_FlowSums.j0 k l0 l1 l2 l3 l4 t405 true))))
def cohousinglaw28_FlowSums.T12 : Bool × List (List Nat × List Nat) := (true, [([], []), ([], []), ([], []), ([1, 2], [1, 2]), ([3], [3]), ([], []), ([], []), ([5, 6], [5, 6]), ([7], [7]), ([4, 8], [4, 8]), ([9], [9]), ([0, 10], [0, 10]), ([11, 11, 0, 1, 2, 3, 4, 5, 6, 7, 8, 9, 10, 11], [0, 11])])
def cohousinglaw28_FlowSums.B12 : List Nat := [0, 0, 0, 6, 14, 0, 0, 96, 224, 510, 1022, 2047, 4095]
theorem cohousinglaw28_FlowSums.tab12 : rtab .any (opsOf Try.f7 12) = cohousinglaw28_FlowSums.T12 := by kernel_rfl
theorem cohousinglaw28_FlowSums.bits12 : waitsOk cohousinglaw28_FlowSums.T12.2 cohousinglaw28_FlowSums.B12 = true := by kernel_rfl
def cohousinglaw28_FlowSums.T25 : Bool × List (List Nat × List Nat) := (true, [([], []), ([0], [0]), ([1], [1]), ([1], [1]), ([2, 3, 1], [1, 2, 3]), ([4, 1], [1, 4]), ([5, 1], [1, 5]), ([1], [1]), ([1], [1]), ([7, 8, 1], [1, 7, 8]), ([9, 1], [1, 9]), ([10, 1], [1, 10]), ([1], [1]), ([1], [1]), ([12, 13, 1], [1, 12, 13]), ([14, 1], [1, 14]), ([15, 1], [1, 15]), ([11, 16, 1], [1, 11, 16]), ([6, 17, 1], [1, 6, 17]), ([1, 18], [1, 18]), ([19, 1], [19]), ([20], [20]), ([20], [20]), ([21, 22, 20], [20, 21, 22]), ([23, 20], [20, 23]), ([24, 20], [20, 24]), ([20], [20]), ([20], [20]), ([26, 27, 20], [20, 26, 27]), ([28, 20], [20, 28]), ([29, 20], [20, 29]), ([25, 30, 20], [20, 25, 30]), ([20], [20]), ([20], [20]), ([32, 33, 20], [20, 32, 33]), ([34, 20], [20, 34]), ([35, 20], [20, 35]), ([31, 36, 20], [20, 31, 36]), ([20, 37], [20, 37]), ([38, 20, 0, 1, 2, 3, 4, 5, 6, 7, 8, 9, 10, 11, 12, 13, 14, 15, 16, 17, 18, 19, 20, 21, 22, 23, 24, 25, 26, 27, 28, 29, 30, 31, 32, 33, 34, 35, 36, 37, 38], [0, 38])])
def cohousinglaw28_FlowSums.B25 : List Nat := [0, 1, 3, 3, 15, 31, 63, 3, 3, 387, 899, 1923, 3, 3, 12291, 28675, 61443, 130947, 262143, 524287, 1048575, 2097151, 2097151, 8388607, 16777215, 33554431, 2097151, 2097151, 203423743, 471859199, 1008730111, 2147483647, 2097151, 2097151, 12886999039, 30066868223, 64426606591, 137438953471, 274877906943, 549755813887]
theorem cohousinglaw28_FlowSums.tab25 : rtab .any (opsOf Try.f7 25) = cohousinglaw28_FlowSums.T25 := by kernel_rfl
theorem cohousinglaw28_FlowSums.bits25 : waitsOk cohousinglaw28_FlowSums.T25.2 cohousinglaw28_FlowSums.B25 = true := by kernel_rfl
set_option maxHeartbeats 8000000 in
set_option maxRecDepth 100000 in
theorem cohousinglaw28_FlowSums.calls (k : Nat) (A0 : Option Addr) (c0 : Nat) (l0 : List (S44)) (A1 : Option Addr) (c1 : Nat) (l1 : List (S39)) (A2 : Option Addr) (c2 : Nat) (l2 : List (S39)) (A3 : Option Addr) (c3 : Nat) (l3 : List Int) (A4 : Option Addr) (c4 : Nat) (l4 : List Int) (r : Bool) (w : World) (hr0 : Kd.C k44 w A0 l0.length l0) (hc0 : l0.length ≤ c0) (hr1 : Kd.C k39 w A1 l1.length l1) (hc1 : l1.length ≤ c1) (hr2 : Kd.C k39 w A2 l2.length l2) (hc2 : l2.length ≤ c2) (hr3 : Kd.C (Kd.int .i64) w A3 l3.length l3) (hc3 : l3.length ≤ c3) (hr4 : Kd.C (Kd.int .i64) w A4 l4.length l4) (hc4 : l4.length ≤ c4) (h : cohousinglaw28_FlowSums.f k l0 l1 l2 l3 l4 = some r) :
  Calls Try.prog 7 #[.slice A0 l0.length c0, .slice A1 l1.length c1, .slice A2 l2.length c2, .slice A3 l3.length c3, .slice A4 l4.length c4] w fun e w' => e = .returned (.bool r) ∧ Below w.heap.size w w' := by
 have HR0 := Aside0.mk hr0
 have HC0 := Aside0.mk hc0
 clear hr0 hc0
 have HR1 := Aside0.mk hr1
 have HC1 := Aside0.mk hc1
 clear hr1 hc1
 have HR2 := Aside0.mk hr2
 have HC2 := Aside0.mk hc2
 clear hr2 hc2
 have HR3 := Aside0.mk hr3
 have HC3 := Aside0.mk hc3
 clear hr3 hc3
 have HR4 := Aside0.mk hr4
 have HC4 := Aside0.mk hc4
 clear hr4 hc4
 have HB := Aside0.mk (Below.refl w.heap.size w)
 have H : ((cohousinglaw28_head.f k).bind fun t405 => (if (l0.length : Int) > 40 then (cohousinglaw28_FlowSums.j0 k l0 l1 l2 l3 l4 t405 true) else ((cohousinglaw28_consistent.f l0 l1 l3).bind fun t406 => (if t406 = true then ((cohousinglaw28_consistent.f l0 l2 l4).bind fun t407 => (if t407 = true then (if (l3.length : Int) = (l0.length : Int) then (cohousinglaw28_FlowSums.j0 k l0 l1 l2 l3 l4 t405 ((l4.length : Int) != (l0.length : Int))) else (cohousinglaw28_FlowSums.j0 k l0 l1 l2 l3 l4 t405 true)) else (cohousinglaw28_FlowSums.j0 k l0 l1 l2 l3 l4 t405 true))) else (cohousinglaw28_FlowSums.j0 k l0 l1 l2 l3 l4 t405 true))))) = some r := h
 clear h
 replace H := Option.bind_eq_some_iff.mp H
 obtain ⟨t405, A60, H⟩ := H
 replace H : (if (l0.length : Int) > 40 then (cohousinglaw28_FlowSums.j0 k l0 l1 l2 l3 l4 t405 true) else ((cohousinglaw28_consistent.f l0 l1 l3).bind fun t406 => (if t406 = true then ((cohousinglaw28_consistent.f l0 l2 l4).bind fun t407 => (if t407 = true then (if (l3.length : Int) = (l0.length : Int) then (cohousinglaw28_FlowSums.j0 k l0 l1 l2 l3 l4 t405 ((l4.length : Int) != (l0.length : Int))) else (cohousinglaw28_FlowSums.j0 k l0 l1 l2 l3 l4 t405 true)) else (cohousinglaw28_FlowSums.j0 k l0 l1 l2 l3 l4 t405 true))) else (cohousinglaw28_FlowSums.j0 k l0 l1 l2 l3 l4 t405 true)))) = some r := H
 have A6 := Aside0.mk A60
 clear A60
 have HC7 := Aside0.mk H
 clear H
 go_enter Try.func7, Try.ntmps7
 go_upto_region 2 with (first | ((with_reducible refine gate_callee (f := 10) rfl ?_); refine goesL_ (some 23) rfl rfl Try.func10 (by kernel_rfl) rfl #[] rfl (by (try simp only [List.map_toArray, List.map_cons, List.map_nil]); first | done | rfl | (simp only [List.length_drop, List.length_take]; rfl)) ?_; (with_reducible refine (cohousinglaw28_head.calls k  t405 _ A6.out).mono ?_); rintro e w8 ⟨rfl, hb⟩; refine ⟨_, rfl, ?_⟩; have n0_ := Aside0.mk (below_step (by repeat (first | (with_reducible first | exact HB.out | apply below_alloc | apply pw_below_drewN | apply below_drew1) | exact HB.out)) hb); clear HB; have HB := n0_; clear n0_; (try clear hb); (try clear hb2); (try clear hk); (try clear hi)))
 (try simp only [Act.put, sI_, s0_, sS_])
 go_cut [54] (fun v54 wc => ∃ (kq : Nat) (x54_6 : Bool), v54 = .bool x54_6 ∧ Aside0 (cohousinglaw28_FlowSums.j0 kq l0 l1 l2 l3 l4 t405 x54_6 = some r) ∧ Aside0 (kq ≤ k) ∧ Aside0 (Below w.heap.size w wc))
 case first => as_aux_lemma =>
  have H := HC7.out
  clear HC7
  by_cases c9 : (l0.length : Int) > 40
  ·rw [if_pos c9] at H
   have c9b0 : decide (40 < (l0.length : Int)) = true := decide_eq_true c9
   have c9b1 : decide (40 < l0.length) = true := decide_eq_true (by omega)
   clear c9
   (first | rw [c9b0] | (simp only [i64_w, i32_w]; rw [c9b0]) | skip)
   have H' := Aside0.mk H
   clear H
   go_wp2
   go_meet
   case rel => exact ⟨_, (true), (by first | rfl | (simp; done) | (simp [*]; done)), H', ⟨by first | omega | exact Nat.le_refl _⟩, ⟨by repeat (first | (with_reducible first | exact HB.out | apply below_alloc | apply pw_below_drewN | apply below_drew1) | exact HB.out)⟩⟩
  ·rw [if_neg c9] at H
   have c9b0 : decide (40 < (l0.length : Int)) = false := decide_eq_false c9
   have c9b1 : decide (40 < l0.length) = false := decide_eq_false (by omega)
   clear c9
   (first | rw [c9b0] | (simp only [i64_w, i32_w]; rw [c9b0]) | skip)
   replace H := Option.bind_eq_some_iff.mp H
   obtain ⟨t406, A100, H⟩ := H
   replace H : (if t406 = true then ((cohousinglaw28_consistent.f l0 l2 l4).bind fun t407 => (if t407 = true then (if (l3.length : Int) = (l0.length : Int) then (cohousinglaw28_FlowSums.j0 k l0 l1 l2 l3 l4 t405 ((l4.length : Int) != (l0.length : Int))) else (cohousinglaw28_FlowSums.j0 k l0 l1 l2 l3 l4 t405 true)) else (cohousinglaw28_FlowSums.j0 k l0 l1 l2 l3 l4 t405 true))) else (cohousinglaw28_FlowSums.j0 k l0 l1 l2 l3 l4 t405 true)) = some r := H
   have A10 := Aside0.mk A100
   clear A100
   by_cases c11 : t406 = true
   ·subst c11
    have H1 : ((cohousinglaw28_consistent.f l0 l2 l4).bind fun t407 => (if t407 = true then (if (l3.length : Int) = (l0.length : Int) then (cohousinglaw28_FlowSums.j0 k l0 l1 l2 l3 l4 t405 ((l4.length : Int) != (l0.length : Int))) else (cohousinglaw28_FlowSums.j0 k l0 l1 l2 l3 l4 t405 true)) else (cohousinglaw28_FlowSums.j0 k l0 l1 l2 l3 l4 t405 true))) = some r := by rw [if_pos rfl] at H; exact H
    clear H
    have H := H1
    clear H1
    replace H := Option.bind_eq_some_iff.mp H
    obtain ⟨t407, A120, H⟩ := H
    replace H : (if t407 = true then (if (l3.length : Int) = (l0.length : Int) then (cohousinglaw28_FlowSums.j0 k l0 l1 l2 l3 l4 t405 ((l4.length : Int) != (l0.length : Int))) else (cohousinglaw28_FlowSums.j0 k l0 l1 l2 l3 l4 t405 true)) else (cohousinglaw28_FlowSums.j0 k l0 l1 l2 l3 l4 t405 true)) = some r := H
    have A12 := Aside0.mk A120
    clear A120
    by_cases c13 : t407 = true
    ·subst c13
     have H1 : (if (l3.length : Int) = (l0.length : Int) then (cohousinglaw28_FlowSums.j0 k l0 l1 l2 l3 l4 t405 ((l4.length : Int) != (l0.length : Int))) else (cohousinglaw28_FlowSums.j0 k l0 l1 l2 l3 l4 t405 true)) = some r := by rw [if_pos rfl] at H; exact H
     clear H
     have H := H1
     clear H1
     by_cases c14 : (l3.length : Int) = (l0.length : Int)
     ·rw [if_pos c14] at H
      have c14b0 : ((l3.length : Int) == (l0.length : Int)) = true := beq_iff_eq.mpr c14
      have c14b1 : ((l3.length : Int) != (l0.length : Int)) = false := bne_eq_false_iff_eq.mpr c14
      have c14b2 : (l3.length == l0.length) = true := by first | simpa using c14 | (simp at c14 ⊢; omega)
      clear c14
      have H' := Aside0.mk H
      clear H
      go_wp2_with (first | (go_at_call 22; (with_reducible refine (cohousinglaw28_consistent.calls _ _ l0 _ _ l1 _ _ l3 true _ ?side1 ?side2 ?side3 ?side4 ?side5 ?side6 A10.out).mono ?_); (case side1 => repeat (first | exact (Kd.C_below HR0.out HB.out) | (with_reducible refine Kd.C_alloc ?_ _) | (with_reducible refine Kd.C_drewN ?_ _) | (with_reducible refine Kd.C_drew ?_))); (case side2 => exact HC0.out); (case side3 => repeat (first | exact (Kd.C_below HR1.out HB.out) | (with_reducible refine Kd.C_alloc ?_ _) | (with_reducible refine Kd.C_drewN ?_ _) | (with_reducible refine Kd.C_drew ?_))); (case side4 => exact HC1.out); (case side5 => repeat (first | exact (Kd.C_below HR3.out HB.out) | (with_reducible refine Kd.C_alloc ?_ _) | (with_reducible refine Kd.C_drewN ?_ _) | (with_reducible refine Kd.C_drew ?_))); (case side6 => exact HC3.out); rintro e w15 ⟨rfl, hb⟩; have n0_ := Aside0.mk (below_step (by repeat (first | (with_reducible first | exact HB.out | apply below_alloc | apply pw_below_drewN | apply below_drew1) | exact HB.out)) hb); clear HB; have HB := n0_; clear n0_; (try clear hb); (try clear hb2); (try clear hk); (try clear hi)) | (go_at_call 22; (with_reducible refine (cohousinglaw28_consistent.calls _ _ l0 _ _ l2 _ _ l4 true _ ?side1 ?side2 ?side3 ?side4 ?side5 ?side6 A12.out).mono ?_); (case side1 => repeat (first | exact (Kd.C_below HR0.out HB.out) | (with_reducible refine Kd.C_alloc ?_ _) | (with_reducible refine Kd.C_drewN ?_ _) | (with_reducible refine Kd.C_drew ?_))); (case side2 => exact HC0.out); (case side3 => repeat (first | exact (Kd.C_below HR2.out HB.out) | (with_reducible refine Kd.C_alloc ?_ _) | (with_reducible refine Kd.C_drewN ?_ _) | (with_reducible refine Kd.C_drew ?_))); (case side4 => exact HC2.out); (case side5 => repeat (first | exact (Kd.C_below HR4.out HB.out) | (with_reducible refine Kd.C_alloc ?_ _) | (with_reducible refine Kd.C_drewN ?_ _) | (with_reducible refine Kd.C_drew ?_))); (case side6 => exact HC4.out); rintro e w16 ⟨rfl, hb⟩; have n0_ := Aside0.mk (below_step (by repeat (first | (with_reducible first | exact HB.out | apply below_alloc | apply pw_below_drewN | apply below_drew1) | exact HB.out)) hb); clear HB; have HB := n0_; clear n0_; (try clear hb); (try clear hb2); (try clear hk); (try clear hi)))
      go_meet
      case rel => exact ⟨_, (((l4.length : Int) != (l0.length : Int))), (by first | rfl | (simp; done) | (simp [*]; done)), H', ⟨by first | omega | exact Nat.le_refl _⟩, ⟨by repeat (first | (with_reducible first | exact HB.out | apply below_alloc | apply pw_below_drewN | apply below_drew1) | exact HB.out)⟩⟩
     ·rw [if_neg c14] at H
      have c14b0 : ((l3.length : Int) == (l0.length : Int)) = false := beq_eq_false_iff_ne.mpr c14
      have c14b1 : ((l3.length : Int) != (l0.length : Int)) = true := bne_iff_ne.mpr c14
      have c14b2 : (l3.length == l0.length) = false := by first | simpa using c14 | (simp at c14 ⊢; omega)
      have H' := Aside0.mk H
      clear H
      go_wp2_with (first | (go_at_call 22; (with_reducible refine (cohousinglaw28_consistent.calls _ _ l0 _ _ l1 _ _ l3 true _ ?side1 ?side2 ?side3 ?side4 ?side5 ?side6 A10.out).mono ?_); (case side1 => repeat (first | exact (Kd.C_below HR0.out HB.out) | (with_reducible refine Kd.C_alloc ?_ _) | (with_reducible refine Kd.C_drewN ?_ _) | (with_reducible refine Kd.C_drew ?_))); (case side2 => exact HC0.out); (case side3 => repeat (first | exact (Kd.C_below HR1.out HB.out) | (with_reducible refine Kd.C_alloc ?_ _) | (with_reducible refine Kd.C_drewN ?_ _) | (with_reducible refine Kd.C_drew ?_))); (case side4 => exact HC1.out); (case side5 => repeat (first | exact (Kd.C_below HR3.out HB.out) | (with_reducible refine Kd.C_alloc ?_ _) | (with_reducible refine Kd.C_drewN ?_ _) | (with_reducible refine Kd.C_drew ?_))); (case side6 => exact HC3.out); rintro e w17 ⟨rfl, hb⟩; have n0_ := Aside0.mk (below_step (by repeat (first | (with_reducible first | exact HB.out | apply below_alloc | apply pw_below_drewN | apply below_drew1) | exact HB.out)) hb); clear HB; have HB := n0_; clear n0_; (try clear hb); (try clear hb2); (try clear hk); (try clear hi)) | (go_at_call 22; (with_reducible refine (cohousinglaw28_consistent.calls _ _ l0 _ _ l2 _ _ l4 true _ ?side1 ?side2 ?side3 ?side4 ?side5 ?side6 A12.out).mono ?_); (case side1 => repeat (first | exact (Kd.C_below HR0.out HB.out) | (with_reducible refine Kd.C_alloc ?_ _) | (with_reducible refine Kd.C_drewN ?_ _) | (with_reducible refine Kd.C_drew ?_))); (case side2 => exact HC0.out); (case side3 => repeat (first | exact (Kd.C_below HR2.out HB.out) | (with_reducible refine Kd.C_alloc ?_ _) | (with_reducible refine Kd.C_drewN ?_ _) | (with_reducible refine Kd.C_drew ?_))); (case side4 => exact HC2.out); (case side5 => repeat (first | exact (Kd.C_below HR4.out HB.out) | (with_reducible refine Kd.C_alloc ?_ _) | (with_reducible refine Kd.C_drewN ?_ _) | (with_reducible refine Kd.C_drew ?_))); (case side6 => exact HC4.out); rintro e w18 ⟨rfl, hb⟩; have n0_ := Aside0.mk (below_step (by repeat (first | (with_reducible first | exact HB.out | apply below_alloc | apply pw_below_drewN | apply below_drew1) | exact HB.out)) hb); clear HB; have HB := n0_; clear n0_; (try clear hb); (try clear hb2); (try clear hk); (try clear hi)))
      go_meet
      case rel => exact ⟨_, (true), (by first | rfl | (simp; done) | (simp [*]; done)), H', ⟨by first | omega | exact Nat.le_refl _⟩, ⟨by repeat (first | (with_reducible first | exact HB.out | apply below_alloc | apply pw_below_drewN | apply below_drew1) | exact HB.out)⟩⟩
    ·replace c13 := Bool.eq_false_iff.mpr c13
     subst c13
     have H1 : (cohousinglaw28_FlowSums.j0 k l0 l1 l2 l3 l4 t405 true) = some r := by rw [if_neg (show ¬ (false = true) by decide)] at H; exact H
     clear H
     have H := H1
     clear H1
     have H' := Aside0.mk H
     clear H
     go_wp2_with (first | (go_at_call 22; (with_reducible refine (cohousinglaw28_consistent.calls _ _ l0 _ _ l1 _ _ l3 true _ ?side1 ?side2 ?side3 ?side4 ?side5 ?side6 A10.out).mono ?_); (case side1 => repeat (first | exact (Kd.C_below HR0.out HB.out) | (with_reducible refine Kd.C_alloc ?_ _) | (with_reducible refine Kd.C_drewN ?_ _) | (with_reducible refine Kd.C_drew ?_))); (case side2 => exact HC0.out); (case side3 => repeat (first | exact (Kd.C_below HR1.out HB.out) | (with_reducible refine Kd.C_alloc ?_ _) | (with_reducible refine Kd.C_drewN ?_ _) | (with_reducible refine Kd.C_drew ?_))); (case side4 => exact HC1.out); (case side5 => repeat (first | exact (Kd.C_below HR3.out HB.out) | (with_reducible refine Kd.C_alloc ?_ _) | (with_reducible refine Kd.C_drewN ?_ _) | (with_reducible refine Kd.C_drew ?_))); (case side6 => exact HC3.out); rintro e w19 ⟨rfl, hb⟩; have n0_ := Aside0.mk (below_step (by repeat (first | (with_reducible first | exact HB.out | apply below_alloc | apply pw_below_drewN | apply below_drew1) | exact HB.out)) hb); clear HB; have HB := n0_; clear n0_; (try clear hb); (try clear hb2); (try clear hk); (try clear hi)) | (go_at_call 22; (with_reducible refine (cohousinglaw28_consistent.calls _ _ l0 _ _ l2 _ _ l4 false _ ?side1 ?side2 ?side3 ?side4 ?side5 ?side6 A12.out).mono ?_); (case side1 => repeat (first | exact (Kd.C_below HR0.out HB.out) | (with_reducible refine Kd.C_alloc ?_ _) | (with_reducible refine Kd.C_drewN ?_ _) | (with_reducible refine Kd.C_drew ?_))); (case side2 => exact HC0.out); (case side3 => repeat (first | exact (Kd.C_below HR2.out HB.out) | (with_reducible refine Kd.C_alloc ?_ _) | (with_reducible refine Kd.C_drewN ?_ _) | (with_reducible refine Kd.C_drew ?_))); (case side4 => exact HC2.out); (case side5 => repeat (first | exact (Kd.C_below HR4.out HB.out) | (with_reducible refine Kd.C_alloc ?_ _) | (with_reducible refine Kd.C_drewN ?_ _) | (with_reducible refine Kd.C_drew ?_))); (case side6 => exact HC4.out); rintro e w20 ⟨rfl, hb⟩; have n0_ := Aside0.mk (below_step (by repeat (first | (with_reducible first | exact HB.out | apply below_alloc | apply pw_below_drewN | apply below_drew1) | exact HB.out)) hb); clear HB; have HB := n0_; clear n0_; (try clear hb); (try clear hb2); (try clear hk); (try clear hi)))
     go_meet
     case rel => exact ⟨_, (true), (by first | rfl | (simp; done) | (simp [*]; done)), H', ⟨by first | omega | exact Nat.le_refl _⟩, ⟨by repeat (first | (with_reducible first | exact HB.out | apply below_alloc | apply pw_below_drewN | apply below_drew1) | exact HB.out)⟩⟩
   ·replace c11 := Bool.eq_false_iff.mpr c11
    subst c11
    have H1 : (cohousinglaw28_FlowSums.j0 k l0 l1 l2 l3 l4 t405 true) = some r := by rw [if_neg (show ¬ (false = true) by decide)] at H; exact H
    clear H
    have H := H1
    clear H1
    have H' := Aside0.mk H
    clear H
    go_wp2_with (first | (go_at_call 22; (with_reducible refine (cohousinglaw28_consistent.calls _ _ l0 _ _ l1 _ _ l3 false _ ?side1 ?side2 ?side3 ?side4 ?side5 ?side6 A10.out).mono ?_); (case side1 => repeat (first | exact (Kd.C_below HR0.out HB.out) | (with_reducible refine Kd.C_alloc ?_ _) | (with_reducible refine Kd.C_drewN ?_ _) | (with_reducible refine Kd.C_drew ?_))); (case side2 => exact HC0.out); (case side3 => repeat (first | exact (Kd.C_below HR1.out HB.out) | (with_reducible refine Kd.C_alloc ?_ _) | (with_reducible refine Kd.C_drewN ?_ _) | (with_reducible refine Kd.C_drew ?_))); (case side4 => exact HC1.out); (case side5 => repeat (first | exact (Kd.C_below HR3.out HB.out) | (with_reducible refine Kd.C_alloc ?_ _) | (with_reducible refine Kd.C_drewN ?_ _) | (with_reducible refine Kd.C_drew ?_))); (case side6 => exact HC3.out); rintro e w21 ⟨rfl, hb⟩; have n0_ := Aside0.mk (below_step (by repeat (first | (with_reducible first | exact HB.out | apply below_alloc | apply pw_below_drewN | apply below_drew1) | exact HB.out)) hb); clear HB; have HB := n0_; clear n0_; (try clear hb); (try clear hb2); (try clear hk); (try clear hi)))
    go_meet
    case rel => exact ⟨_, (true), (by first | rfl | (simp; done) | (simp [*]; done)), H', ⟨by first | omega | exact Nat.le_refl _⟩, ⟨by repeat (first | (with_reducible first | exact HB.out | apply below_alloc | apply pw_below_drewN | apply below_drew1) | exact HB.out)⟩⟩
 case rest => as_aux_lemma =>
  clear HC7
  try clear c1
  try clear c2
  try clear p2
  try clear c3
  try clear c4
  try clear c7
  try clear c9
  try clear c9b0
  try clear c9b1
  try clear c10
  try clear c11
  try clear c13
  try clear c14
  try clear c14b0
  try clear c14b1
  try clear c14b2
  obtain ⟨kq, x54_6, rfl, HA, HJ6, HB⟩ := hcut
  cases kq with
  | zero => exact absurd HA.out (by simp [cohousinglaw28_FlowSums.j0])
  | succ kj6 =>
   have H := HA.out
   clear HA
   simp only [cohousinglaw28_FlowSums.j0] at H
   by_cases c22 : x54_6 = true
   ·subst c22
    have H1 : (some t405) = some r := by rw [if_pos rfl] at H; exact H
    clear H
    have H := H1
    clear H1
    obtain rfl := Option.some.inj H
    go_wp2
    go_ret
    exact ⟨by first | rfl | (simp [errW_none, errW_some] <;> rfl) | (simp [*, errW_none, errW_some] <;> rfl), by repeat (first | (with_reducible first | exact HB.out | apply below_alloc | apply pw_below_drewN | apply below_drew1) | exact HB.out)⟩
   ·replace c22 := Bool.eq_false_iff.mpr c22
    subst c22
    have H1 : ((some (([] : List (S44)) : List (S44))).bind fun y408 => (if y408.length + l0.length < 5864062014805 then (cohousinglaw28_FlowSums.l0 kj6 l0 l1 l2 l3 l4 t405 (y408 ++ l0) ([] : List Int) (l0.length : Int) 0) else (none))) = some r := by rw [if_neg (show ¬ (false = true) by decide)] at H; exact H
    clear H
    have H := H1
    clear H1
    obtain ⟨y408, hy408⟩ : ∃ y_ : List (S44), y_ = (([] : List (S44))) := ⟨_, rfl⟩
    replace H : (if y408.length + l0.length < 5864062014805 then (cohousinglaw28_FlowSums.l0 kj6 l0 l1 l2 l3 l4 t405 (y408 ++ l0) ([] : List Int) (l0.length : Int) 0) else (none)) = some r := by first | (rw [hy408]; with_reducible exact H) | (have H2_ := (Option.bind_some _ _).symm.trans H; rw [hy408]; with_reducible exact H2_) | (have H2_ := (Option.bind_some _ _).symm.trans H; with_reducible exact H2_) | with_reducible exact H | (rw [hy408]; exact H) | exact H
    have Ny408 := Aside0.mk hy408
    clear hy408
    by_cases c23 : y408.length + l0.length < 5864062014805
    ·rw [if_pos c23] at H
     have LMc23 := Aside0.mk c23
     clear c23
     obtain ⟨y411, hy411⟩ : ∃ y_ : List (S44), y_ = (y408 ++ l0) := ⟨_, rfl⟩
     replace H : (cohousinglaw28_FlowSums.l0 kj6 l0 l1 l2 l3 l4 t405 y411 ([] : List Int) (l0.length : Int) 0) = some r := by first | (rw [hy411]; with_reducible exact H) | (have H2_ := (Option.bind_some _ _).symm.trans H; rw [hy411]; with_reducible exact H2_) | (have H2_ := (Option.bind_some _ _).symm.trans H; with_reducible exact H2_) | with_reducible exact H | (rw [hy411]; exact H) | exact H
     have Ny411 := Aside0.mk hy411
     clear hy411
     have H' := Aside0.mk H
     clear H
     go_wp2_with (first | ((with_reducible refine gate_dst (N := 56) rfl ?_); (try (refine gate_guard (by rfl) ?_; dsimp only)); refine Kd.R_lit k44 _ 44 ?hg (N := 56) ?hd (xs := ([] : List (S44))) (inner := []) (ok := fun _ => True) (okp := fun _ => True) ?hr ?hp (fun _ hk => hk) trivial (Below.refl _ _) (Nat.le_refl _) (by simp) ?_; (case hd => rfl); (case hg => rfl); (case hr => first | (go_simp; done) | (go_simp; rfl)); (case hp => exact (Reps.none _ _)); intro v409 w24 ho25 hb hg_ hnew_; clear hg_ hnew_; (first | rw [← Ny408.out] at ho25 | (simp only [Int.reduceToNat] at ho25; rw [← Ny408.out] at ho25)); have n0_ := Aside0.mk (Kd.R_lower ho25 (below_size (by repeat (first | (with_reducible first | exact HB.out | apply below_alloc | apply pw_below_drewN | apply below_drew1) | exact HB.out)))); have n1_ := Aside0.mk (below_step (by repeat (first | (with_reducible first | exact HB.out | apply below_alloc | apply pw_below_drewN | apply below_drew1) | exact HB.out)) hb); clear HB; have HO410 := n0_; have HB := n1_; clear n0_ n1_; clear hb ho25) | ((with_reducible refine gate_builtin (b := .append) (xs := #[.tmp 56, .tmp 57]) rfl ?_); (try (refine gate_guard (by rfl) ?_; dsimp only)); at_builtin; refine Kd.R_append_rows k44 (w0 := w) w.heap.size rfl (.tmp 56) (.tmp 57) 22 44 (.agg #[(.int .i64 0), (.int .i64 0), (.int .i64 0)]) 24 rfl Try.underlying22 info44 rfl (by decide) (by omega) v409 y408 l0 _ _ _ (fun _ => True) (fun _ => False) rfl rfl ?aO ?aR (fun _ _ h => h) (fun _ h => h.elim) ?aF ?aB ?aS ?aL ?_; (case aR => repeat (first | exact (Kd.C_below HR0.out HB.out) | (with_reducible refine Kd.C_alloc ?_ _) | (with_reducible refine Kd.C_drewN ?_ _) | (with_reducible refine Kd.C_drew ?_))); (case aB => exact (by repeat (first | (with_reducible first | exact HB.out | apply below_alloc | apply pw_below_drewN | apply below_drew1) | exact HB.out))); (case aF => exact (fun _ _ => trivial)); (case aO => exact (by (with_reducible repeat (first | apply Kd.R_alloc | apply Kd.R_drewN | apply Kd.R_drew)); exact HO410.out)); (case aS => exact (below_size (by repeat (first | (with_reducible first | exact HB.out | apply below_alloc | apply pw_below_drewN | apply below_drew1) | exact HB.out)))); (case aL => have := LMc23.out; omega); intro v412 w26 ho hb hg hat; rw [← Ny411.out] at ho; have n0_ := Aside0.mk (hb); have n1_ := Aside0.mk (ho); clear HB; clear HO410; have HB := n0_; have HO413 := n1_; clear n0_ n1_; clear ho hb hg hat))
     go_loopg [13, 61] kj6 (fun kq v13 v61 w' => ∃ (x12_2 : List (S44)) (x13_2 : List Int) (x61_2 : Int), v61 = .int .i64 x61_2 ∧ Aside0 (cohousinglaw28_FlowSums.l0 kq l0 l1 l2 l3 l4 t405 x12_2 x13_2 (l0.length : Int) x61_2 = some r) ∧ Aside0 (kq ≤ kj6) ∧ Aside0 (Kd.R k44 44 w' w.heap.size (fun _ => True) v412 x12_2) ∧ Aside0 (Kd.R (Kd.int .i64) 3 w' w.heap.size (fun _ => True) v13 x13_2) ∧ Aside0 (Below w.heap.size w w'))
     case atStart => exact ⟨(y411), (([] : List Int)), (0), (by first | rfl | (simp; done) | (simp [*]; done)), H', ⟨Nat.le_refl _⟩, ⟨by (with_reducible repeat (first | apply Kd.R_alloc | apply Kd.R_drewN | apply Kd.R_drew)); exact HO413.out⟩, ⟨by first | exact Kd.R_nil _ _ _ _ _ | exact Kd.N_nil _ _ _ _ _ | exact Kd.V_nil _ _ _ _ _ | exact Kd.Q_nil _ _ _ _ _ | exact Kd.S_nil _ _ _ _ _⟩, ⟨by repeat (first | (with_reducible first | exact HB.out | apply below_alloc | apply pw_below_drewN | apply below_drew1) | exact HB.out)⟩⟩
     case round => as_aux_lemma =>
      clear H'
      try clear c1
      try clear c2
      try clear p2
      try clear c3
      try clear c4
      try clear c7
      try clear c9
      try clear c9b0
      try clear c9b1
      try clear c10
      try clear c11
      try clear c13
      try clear c14
      try clear c14b0
      try clear c14b1
      try clear c14b2
      try clear c22
      try clear c23
      try clear p2
      obtain ⟨x12_2, x13_2, x61_2, rfl, HA, HK2, HO_12, HO_13, HB⟩ := hrel
      cases gk with
      | zero => exact absurd HA.out (by simp [cohousinglaw28_FlowSums.l0])
      | succ k2 =>
       have H := HA.out
       clear HA
       simp only [cohousinglaw28_FlowSums.l0] at H
       by_cases c27 : x61_2 < (l0.length : Int)
       ·rw [if_pos c27] at H
        have c27b0 : decide (x61_2 < (l0.length : Int)) = true := decide_eq_true c27
        clear c27
        by_cases c28 : 0 ≤ x61_2
        ·rw [if_pos c28] at H
         have c28b0 : decide (0 ≤ x61_2) = true := decide_eq_true c28
         clear c28
         by_cases c29 : x61_2 < (l0.length : Int)
         ·rw [if_pos c29] at H
          have c29b0 : decide (x61_2 < (l0.length : Int)) = true := decide_eq_true c29
          clear c29
          by_cases c30 : ((rd_T44 l0 x61_2).f2) > 500000000
          ·rw [if_pos c30] at H
           have c30b0 : decide (500000000 < ((rd_T44 l0 x61_2).f2)) = true := decide_eq_true c30
           clear c30
           obtain rfl := Option.some.inj H
           have p414 : 0 ≤ (x61_2 : Int) := of_decide_eq_true (by first | (with_reducible assumption) | assumption)
           have q414 : x61_2 < (l0.length : Int) := of_decide_eq_true (by first | (with_reducible assumption) | assumption)
           obtain ⟨ad414, e414, hx414_0, hx414_1, hx414_2⟩ := at_T44 HR0.out x61_2 p414 q414
           cases e414
           replace hx414_0 := (HB.out.cell (World.block_lt_of_cell? w _ hx414_0)).trans hx414_0
           replace hx414_1 := (HB.out.cell (World.block_lt_of_cell? w _ hx414_1)).trans hx414_1
           replace hx414_2 := (HB.out.cell (World.block_lt_of_cell? w _ hx414_2)).trans hx414_2
           replace p414 := eq_true p414
           replace q414 := eq_true q414
           go_wp2
           go_ret
           exact ⟨by first | rfl | (simp [errW_none, errW_some] <;> rfl) | (simp [*, errW_none, errW_some] <;> rfl), by repeat (first | (with_reducible first | exact HB.out | apply below_alloc | apply pw_below_drewN | apply below_drew1) | exact HB.out)⟩
          ·rw [if_neg c30] at H
           have c30b0 : decide (500000000 < ((rd_T44 l0 x61_2).f2)) = false := decide_eq_false c30
           clear c30
           by_cases c31 : x61_2 < (l1.length : Int)
           ·rw [if_pos c31] at H
            have c31b0 : decide (x61_2 < (l1.length : Int)) = true := decide_eq_true c31
            clear c31
            by_cases c32 : ((rd_T39 l1 x61_2).f1) > 500000000
            ·rw [if_pos c32] at H
             have c32b0 : decide (500000000 < ((rd_T39 l1 x61_2).f1)) = true := decide_eq_true c32
             clear c32
             obtain rfl := Option.some.inj H
             have p414 : 0 ≤ (x61_2 : Int) := of_decide_eq_true (by first | (with_reducible assumption) | assumption)
             have q414 : x61_2 < (l0.length : Int) := of_decide_eq_true (by first | (with_reducible assumption) | assumption)
             obtain ⟨ad414, e414, hx414_0, hx414_1, hx414_2⟩ := at_T44 HR0.out x61_2 p414 q414
             cases e414
             replace hx414_0 := (HB.out.cell (World.block_lt_of_cell? w _ hx414_0)).trans hx414_0
             replace hx414_1 := (HB.out.cell (World.block_lt_of_cell? w _ hx414_1)).trans hx414_1
             replace hx414_2 := (HB.out.cell (World.block_lt_of_cell? w _ hx414_2)).trans hx414_2
             replace p414 := eq_true p414
             replace q414 := eq_true q414
             have p415 : 0 ≤ (x61_2 : Int) := of_decide_eq_true (by first | (with_reducible assumption) | assumption)
             have q415 : x61_2 < (l1.length : Int) := of_decide_eq_true (by first | (with_reducible assumption) | assumption)
             obtain ⟨ad415, e415, hx415_0, hx415_1⟩ := at_T39 HR1.out x61_2 p415 q415
             cases e415
             replace hx415_0 := (HB.out.cell (World.block_lt_of_cell? w _ hx415_0)).trans hx415_0
             replace hx415_1 := (HB.out.cell (World.block_lt_of_cell? w _ hx415_1)).trans hx415_1
             replace p415 := eq_true p415
             replace q415 := eq_true q415
             go_wp2
             go_ret
             exact ⟨by first | rfl | (simp [errW_none, errW_some] <;> rfl) | (simp [*, errW_none, errW_some] <;> rfl), by repeat (first | (with_reducible first | exact HB.out | apply below_alloc | apply pw_below_drewN | apply below_drew1) | exact HB.out)⟩
            ·rw [if_neg c32] at H
             have c32b0 : decide (500000000 < ((rd_T39 l1 x61_2).f1)) = false := decide_eq_false c32
             clear c32
             by_cases c33 : x61_2 < (l2.length : Int)
             ·rw [if_pos c33] at H
              have c33b0 : decide (x61_2 < (l2.length : Int)) = true := decide_eq_true c33
              clear c33
              by_cases c34 : ((rd_T39 l2 x61_2).f1) > 500000000
              ·rw [if_pos c34] at H
               have c34b0 : decide (500000000 < ((rd_T39 l2 x61_2).f1)) = true := decide_eq_true c34
               clear c34
               obtain rfl := Option.some.inj H
               have p414 : 0 ≤ (x61_2 : Int) := of_decide_eq_true (by first | (with_reducible assumption) | assumption)
               have q414 : x61_2 < (l0.length : Int) := of_decide_eq_true (by first | (with_reducible assumption) | assumption)
               obtain ⟨ad414, e414, hx414_0, hx414_1, hx414_2⟩ := at_T44 HR0.out x61_2 p414 q414
               cases e414
               replace hx414_0 := (HB.out.cell (World.block_lt_of_cell? w _ hx414_0)).trans hx414_0
               replace hx414_1 := (HB.out.cell (World.block_lt_of_cell? w _ hx414_1)).trans hx414_1
               replace hx414_2 := (HB.out.cell (World.block_lt_of_cell? w _ hx414_2)).trans hx414_2
               replace p414 := eq_true p414
               replace q414 := eq_true q414
               have p415 : 0 ≤ (x61_2 : Int) := of_decide_eq_true (by first | (with_reducible assumption) | assumption)
               have q415 : x61_2 < (l1.length : Int) := of_decide_eq_true (by first | (with_reducible assumption) | assumption)
               obtain ⟨ad415, e415, hx415_0, hx415_1⟩ := at_T39 HR1.out x61_2 p415 q415
               cases e415
               replace hx415_0 := (HB.out.cell (World.block_lt_of_cell? w _ hx415_0)).trans hx415_0
               replace hx415_1 := (HB.out.cell (World.block_lt_of_cell? w _ hx415_1)).trans hx415_1
               replace p415 := eq_true p415
               replace q415 := eq_true q415
               have p416 : 0 ≤ (x61_2 : Int) := of_decide_eq_true (by first | (with_reducible assumption) | assumption)
               have q416 : x61_2 < (l2.length : Int) := of_decide_eq_true (by first | (with_reducible assumption) | assumption)
               obtain ⟨ad416, e416, hx416_0, hx416_1⟩ := at_T39 HR2.out x61_2 p416 q416
               cases e416
               replace hx416_0 := (HB.out.cell (World.block_lt_of_cell? w _ hx416_0)).trans hx416_0
               replace hx416_1 := (HB.out.cell (World.block_lt_of_cell? w _ hx416_1)).trans hx416_1
               replace p416 := eq_true p416
               replace q416 := eq_true q416
               go_wp2
               go_ret
               exact ⟨by first | rfl | (simp [errW_none, errW_some] <;> rfl) | (simp [*, errW_none, errW_some] <;> rfl), by repeat (first | (with_reducible first | exact HB.out | apply below_alloc | apply pw_below_drewN | apply below_drew1) | exact HB.out)⟩
              ·rw [if_neg c34] at H
               have c34b0 : decide (500000000 < ((rd_T39 l2 x61_2).f1)) = false := decide_eq_false c34
               clear c34
               by_cases c35 : x61_2 < (x12_2.length : Int)
               ·rw [if_pos c35] at H
                have c35b0 : decide (x61_2 < (x12_2.length : Int)) = true := decide_eq_true c35
                clear c35
                obtain ⟨y418, hy418⟩ : ∃ y_ : List (S44), y_ = (x12_2.set (x61_2 : Int).toNat (⟨(rd_T44 x12_2 x61_2).f0, (rd_T44 x12_2 x61_2).f1, wrap64 (2 * ((rd_T44 l0 x61_2).f2))⟩ : S44)) := ⟨_, rfl⟩
                replace H : (if x61_2 < (l3.length : Int) then (if x61_2 < (l4.length : Int) then (if x13_2.length < 17592186044416 then (cohousinglaw28_FlowSums.l0 k2 l0 l1 l2 l3 l4 t405 y418 (x13_2 ++ [wrap64 ((rd l3 x61_2) + (rd l4 x61_2))]) (l0.length : Int) (wrap64 (x61_2 + 1))) else (none)) else (none)) else (none)) = some r := by first | (rw [hy418]; with_reducible exact H) | (have H2_ := (Option.bind_some _ _).symm.trans H; rw [hy418]; with_reducible exact H2_) | (have H2_ := (Option.bind_some _ _).symm.trans H; with_reducible exact H2_) | with_reducible exact H | (rw [hy418]; exact H) | exact H
                have Ny418 := Aside0.mk hy418
                clear hy418
                by_cases c37 : x61_2 < (l3.length : Int)
                ·rw [if_pos c37] at H
                 have c37b0 : decide (x61_2 < (l3.length : Int)) = true := decide_eq_true c37
                 clear c37
                 by_cases c38 : x61_2 < (l4.length : Int)
                 ·rw [if_pos c38] at H
                  have c38b0 : decide (x61_2 < (l4.length : Int)) = true := decide_eq_true c38
                  clear c38
                  by_cases c39 : x13_2.length < 17592186044416
                  ·rw [if_pos c39] at H
                   have LMc39 := Aside0.mk c39
                   clear c39
                   obtain ⟨y421, hy421⟩ : ∃ y_ : List Int, y_ = (x13_2 ++ [wrap64 ((rd l3 x61_2) + (rd l4 x61_2))]) := ⟨_, rfl⟩
                   replace H : (cohousinglaw28_FlowSums.l0 k2 l0 l1 l2 l3 l4 t405 y418 y421 (l0.length : Int) (wrap64 (x61_2 + 1))) = some r := by first | (rw [hy421]; with_reducible exact H) | (have H2_ := (Option.bind_some _ _).symm.trans H; rw [hy421]; with_reducible exact H2_) | (have H2_ := (Option.bind_some _ _).symm.trans H; with_reducible exact H2_) | with_reducible exact H | (rw [hy421]; exact H) | exact H
                   have Ny421 := Aside0.mk hy421
                   clear hy421
                   have H' := Aside0.mk H
                   clear H
                   have p414 : 0 ≤ (x61_2 : Int) := of_decide_eq_true (by first | (with_reducible assumption) | assumption)
                   have q414 : x61_2 < (l0.length : Int) := of_decide_eq_true (by first | (with_reducible assumption) | assumption)
                   obtain ⟨ad414, e414, hx414_0, hx414_1, hx414_2⟩ := at_T44 HR0.out x61_2 p414 q414
                   cases e414
                   replace hx414_0 := (HB.out.cell (World.block_lt_of_cell? w _ hx414_0)).trans hx414_0
                   replace hx414_1 := (HB.out.cell (World.block_lt_of_cell? w _ hx414_1)).trans hx414_1
                   replace hx414_2 := (HB.out.cell (World.block_lt_of_cell? w _ hx414_2)).trans hx414_2
                   replace p414 := eq_true p414
                   replace q414 := eq_true q414
                   have p415 : 0 ≤ (x61_2 : Int) := of_decide_eq_true (by first | (with_reducible assumption) | assumption)
                   have q415 : x61_2 < (l1.length : Int) := of_decide_eq_true (by first | (with_reducible assumption) | assumption)
                   obtain ⟨ad415, e415, hx415_0, hx415_1⟩ := at_T39 HR1.out x61_2 p415 q415
                   cases e415
                   replace hx415_0 := (HB.out.cell (World.block_lt_of_cell? w _ hx415_0)).trans hx415_0
                   replace hx415_1 := (HB.out.cell (World.block_lt_of_cell? w _ hx415_1)).trans hx415_1
                   replace p415 := eq_true p415
                   replace q415 := eq_true q415
                   have p416 : 0 ≤ (x61_2 : Int) := of_decide_eq_true (by first | (with_reducible assumption) | assumption)
                   have q416 : x61_2 < (l2.length : Int) := of_decide_eq_true (by first | (with_reducible assumption) | assumption)
                   obtain ⟨ad416, e416, hx416_0, hx416_1⟩ := at_T39 HR2.out x61_2 p416 q416
                   cases e416
                   replace hx416_0 := (HB.out.cell (World.block_lt_of_cell? w _ hx416_0)).trans hx416_0
                   replace hx416_1 := (HB.out.cell (World.block_lt_of_cell? w _ hx416_1)).trans hx416_1
                   replace p416 := eq_true p416
                   replace q416 := eq_true q416
                   have p417 : 0 ≤ (x61_2 : Int) := of_decide_eq_true (by first | (with_reducible assumption) | assumption)
                   have q417 : x61_2 < (l0.length : Int) := of_decide_eq_true (by first | (with_reducible assumption) | assumption)
                   obtain ⟨ad417, e417, hx417_0, hx417_1, hx417_2⟩ := at_T44 HR0.out x61_2 p417 q417
                   obtain rfl : ad414 = ad417 := (by injection e417)
                   replace hx417_0 := (HB.out.cell (World.block_lt_of_cell? w _ hx417_0)).trans hx417_0
                   replace hx417_1 := (HB.out.cell (World.block_lt_of_cell? w _ hx417_1)).trans hx417_1
                   replace hx417_2 := (HB.out.cell (World.block_lt_of_cell? w _ hx417_2)).trans hx417_2
                   replace p417 := eq_true p417
                   replace q417 := eq_true q417
                   have p36 : 0 ≤ (x61_2 : Int) := of_decide_eq_true (by first | (with_reducible assumption) | assumption)
                   have q36 : (x61_2 : Int) < ((x12_2.length : Int) : Int) := of_decide_eq_true (by first | (with_reducible assumption) | assumption)
                   obtain ⟨go36, co36, eo36, gb36, gl36, cl36, HG36⟩ := Kd.R_form HO_12.out (by omega)
                   (first | cases eo36 | (injection eo36 with ea_ en_ ec_; (first | subst ea_ | (injection ea_ with ea_; subst ea_)); subst ec_; clear en_))
                   have GB36 := Aside0.mk gb36
                   have GG36 := Aside0.mk HG36
                   clear gb36 gl36 HG36
                   obtain ⟨ce36, hcl36, hM36, hcc36, hfr36⟩ := Kd.R_elem HO_12.out z44 (x61_2 : Int) p36 q36
                   obtain rfl := k44_openM hM36
                   have hx36_0 : wr.cell? ⟨go36, (x61_2 : Int).toNat * 3, none⟩ = some (.int .i64 ((rd_T44 x12_2 x61_2).f0)) := hcc36 0 _ rfl
                   have hx36_1 : wr.cell? ⟨go36, (x61_2 : Int).toNat * 3 + 1, none⟩ = some (.int .i64 ((rd_T44 x12_2 x61_2).f1)) := hcc36 1 _ rfl
                   have hx36_2 : wr.cell? ⟨go36, (x61_2 : Int).toNat * 3 + 2, none⟩ = some (.int .i64 ((rd_T44 x12_2 x61_2).f2)) := hcc36 2 _ rfl
                   have hf36_0 : wr.frozen? ⟨go36, (x61_2 : Int).toNat * 3, none⟩ = false := hfr36 0
                   have hf36_1 : wr.frozen? ⟨go36, (x61_2 : Int).toNat * 3 + 1, none⟩ = false := hfr36 1
                   have hf36_2 : wr.frozen? ⟨go36, (x61_2 : Int).toNat * 3 + 2, none⟩ = false := hfr36 2
                   clear hcl36 hcc36 hfr36 hM36
                   replace p36 := eq_true p36
                   replace q36 := eq_true q36
                   have HX40 := Aside0.mk (show Kd.R k44 44 wr w.heap.size (fun _ => True) (.slice (some ⟨go36, 0, none⟩) x12_2.length co36) x12_2 from (by (with_reducible repeat (first | apply Kd.R_alloc | apply Kd.R_drewN | apply Kd.R_drew)); exact HO_12.out))
                   obtain ⟨ce40, hcl40, hM40, hcc40, hfr40⟩ := Kd.R_elem HX40.out z44 (x61_2 : Int) (of_decide_eq_true (by first | (with_reducible assumption) | assumption)) (by have h_ : (x61_2 : Int) < ((x12_2.length : Int) : Int) := of_decide_eq_true (by first | (with_reducible assumption) | assumption); first | exact h_ | (have e_ := (Kd.R_reads' HO_12.out).1; omega) | simpa using h_)
                   obtain rfl := k44_openM hM40
                   have HP40 := Kd.R_seg HX40.out (x61_2 : Int) (of_decide_eq_true (by first | (with_reducible assumption) | assumption)) (by have h_ : (x61_2 : Int) < ((x12_2.length : Int) : Int) := of_decide_eq_true (by first | (with_reducible assumption) | assumption); first | exact h_ | (have e_ := (Kd.R_reads' HO_12.out).1; omega) | simpa using h_) (seg := [.int .i64 (wrap64 (2 * ((rd_T44 l0 x61_2).f2)))]) (j := 2) hcl40 hcc40 (show 3 ≤ 3 from by decide) (x' := (⟨(rd_T44 x12_2 x61_2).f0, (rd_T44 x12_2 x61_2).f1, wrap64 (2 * ((rd_T44 l0 x61_2).f2))⟩ : S44)) (k44_mkM _ _ _ (⟨(rd_T44 x12_2 x61_2).f0, (rd_T44 x12_2 x61_2).f1, wrap64 (2 * ((rd_T44 l0 x61_2).f2))⟩ : S44) ) (fun _ hk => hk)
                   have hx40_2 := hcc40 2 _ rfl
                   (try simp only [show (k44).sz = 3 from rfl, Nat.mul_one, Nat.add_zero] at hx40_2)
                   have hf40_2 := hfr40 2
                   (try simp only [show (k44).sz = 3 from rfl, Nat.mul_one, Nat.add_zero] at hf40_2)
                   clear hcl40 hcc40 hfr40 hM40
                   try go_wp2_with (first | ((with_reducible refine gate_store (t := 3) (p := 96) rfl ?_); refine store_event (t := 3) (p := 96) (v := ?vo_w41) (w1 := (wr.setCell ⟨go36, (x61_2 : Int).toNat * 3 + 2, none⟩ (.int .i64 (wrap64 (2 * ((rd_T44 l0 x61_2).f2)))))) ?hg ?ho ?hn ?hr ?_; (case ho => rfl); (case hg => rfl); (case hn => rfl); (case hr => first | (go_simp; done) | (go_simp; rfl)); intro w41 hw; have hg : wr.grownBy w41 (some go36) := (by rw [hw]; exact HP40.2); have hp_ : Kd.R k44 44 w41 w.heap.size (fun _ => True) (.slice (some ⟨go36, 0, none⟩) x12_2.length co36) y418 := (by rw [hw, Ny418.out]; exact HP40.1); clear HP40; have n0_ := Aside0.mk (hp_); have n1_ := Aside0.mk (Kd.R_over' (v := (.slice (some ⟨go36, 0, none⟩) x12_2.length co36)) (by (with_reducible repeat (first | apply Kd.R_alloc | apply Kd.R_drewN | apply Kd.R_drew)); exact HO_13.out) (Kd.R_typed HO_12.out) (by decide) hg); have n2_ := Aside0.mk ((by rw [hw]; exact below_set (HB.out) GB36.out : Below w.heap.size w w41)); clear HO_12; clear HO_13; clear HB; have HO_12 := n0_; have HO_13 := n1_; have HB := n2_; clear n0_ n1_ n2_; clear hg hw hp_))
                   have n0_ := Aside0.mk (Kd.R_drew HO_12.out)
                   have n1_ := Aside0.mk (Kd.R_drew HO_13.out)
                   have n2_ := Aside0.mk (below_drew1 HB.out)
                   clear HO_12
                   clear HO_13
                   clear HB
                   have HO_12 := n0_
                   have HO_13 := n1_
                   have HB := n2_
                   clear n0_ n1_ n2_
                   have p419 : 0 ≤ (x61_2 : Int) := of_decide_eq_true (by first | (with_reducible assumption) | assumption)
                   have q419 : x61_2 < (l3.length : Int) := of_decide_eq_true (by first | (with_reducible assumption) | assumption)
                   obtain ⟨ad419, e419, hx419_0⟩ := Kd.at_int HR3.out x61_2 p419 q419
                   have hw419_0 := hx419_0
                   cases e419
                   replace hx419_0 := (HB.out.cell (World.block_lt_of_cell? w _ hx419_0)).trans hx419_0
                   replace p419 := eq_true p419
                   replace q419 := eq_true q419
                   have p420 : 0 ≤ (x61_2 : Int) := of_decide_eq_true (by first | (with_reducible assumption) | assumption)
                   have q420 : x61_2 < (l4.length : Int) := of_decide_eq_true (by first | (with_reducible assumption) | assumption)
                   obtain ⟨ad420, e420, hx420_0⟩ := Kd.at_int HR4.out x61_2 p420 q420
                   have hw420_0 := hx420_0
                   cases e420
                   replace hx420_0 := (HB.out.cell (World.block_lt_of_cell? w _ hx420_0)).trans hx420_0
                   replace p420 := eq_true p420
                   replace q420 := eq_true q420
                   refine start_ (n := 13) (S := fun w' => w'.cell? (ad419.add (x61_2).toNat) = some (.int .i64 (rd l3 x61_2)) ∧ w'.cell? (ad420.add (x61_2).toNat) = some (.int .i64 (rd l4 x61_2))) (ds := []) #[n_, n_, n_, n_, n_, n_, n_, n_, n_, n_, n_, n_, n_] (by kernel_rfl) rfl rfl ⟨((HB.out.cell (World.block_lt_of_cell? w _ hw419_0)).trans hw419_0), ((HB.out.cell (World.block_lt_of_cell? w _ hw420_0)).trans hw420_0)⟩ (fun hHeld => ?_); refine with_tabW cohousinglaw28_FlowSums.tab12 cohousinglaw28_FlowSums.bits12 (fun HT_ HW_ => ?_)
                   generalize w41.drew = w42 at HO_12 HO_13 HB hx419_0 hx420_0 hHeld ⊢
                   refine pure_ (i := 0) (N := some 97) (v := ?_) (a' := ?_) #[y_, n_, n_, n_, n_, n_, n_, n_, n_, n_, n_, n_, n_] rfl rfl (any_of HT_.out (by kernel_rfl)) (fun _ _ _ h => h) (Or.inl ⟨by rfl, ?_⟩) ?_ ?_
                   rotate_left
                   ·intro w'
                    go_simp
                    with_reducible rfl
                   rotate_left
                   ·simp only [Act.put, sI_, s0_, sS_, i64_w, i32_w]
                    rfl
                   refine pure_ (i := 1) (N := some 98) (v := ?_) (a' := ?_) #[y_, y_, n_, n_, n_, n_, n_, n_, n_, n_, n_, n_, n_] rfl rfl (any_of HT_.out (by kernel_rfl)) (fun _ _ _ h => h) (Or.inl ⟨by rfl, ?_⟩) ?_ ?_
                   rotate_left
                   ·intro w'
                    go_simp
                    with_reducible rfl
                   rotate_left
                   ·simp only [Act.put, sI_, s0_, sS_, i64_w, i32_w]
                    rfl
                   refine pure_ (i := 2) (N := some 99) (v := ?_) (a' := ?_) #[y_, y_, y_, n_, n_, n_, n_, n_, n_, n_, n_, n_, n_] rfl rfl (any_of HT_.out (by kernel_rfl)) (fun _ _ _ h => h) (Or.inl ⟨by rfl, ?_⟩) ?_ ?_
                   rotate_left
                   ·intro w'
                    go_simp
                    with_reducible rfl
                   rotate_left
                   ·simp only [Act.put, sI_, s0_, sS_, i64_w, i32_w]
                    rfl
                   refine pure_ (i := 3) (N := some 100) (v := ?_) (a' := ?_) #[y_, y_, y_, y_, n_, n_, n_, n_, n_, n_, n_, n_, n_] rfl rfl (any_of HT_.out (by kernel_rfl)) (fun _ _ _ h => h) (Or.inl ⟨by rfl, ?_⟩) ?_ ?_
                   rotate_left
                   ·intro w'
                    go_simp
                    with_reducible rfl
                   rotate_left
                   ·simp only [Act.put, sI_, s0_, sS_, i64_w, i32_w]
                    rfl
                   refine pure_ (i := 5) (N := some 102) (v := ?_) (a' := ?_) #[y_, y_, y_, y_, n_, y_, n_, n_, n_, n_, n_, n_, n_] rfl rfl (any_of HT_.out (by kernel_rfl)) (fun _ _ _ h => h) (Or.inl ⟨by rfl, ?_⟩) ?_ ?_
                   rotate_left
                   ·intro w'
                    go_simp
                    with_reducible rfl
                   rotate_left
                   ·simp only [Act.put, sI_, s0_, sS_, i64_w, i32_w]
                    rfl
                   refine pure_ (i := 6) (N := some 103) (v := ?_) (a' := ?_) #[y_, y_, y_, y_, n_, y_, y_, n_, n_, n_, n_, n_, n_] rfl rfl (any_of HT_.out (by kernel_rfl)) (fun _ _ _ h => h) (Or.inl ⟨by rfl, ?_⟩) ?_ ?_
                   rotate_left
                   ·intro w'
                    go_simp
                    with_reducible rfl
                   rotate_left
                   ·simp only [Act.put, sI_, s0_, sS_, i64_w, i32_w]
                    rfl
                   refine pure_ (i := 7) (N := some 104) (v := ?_) (a' := ?_) #[y_, y_, y_, y_, n_, y_, y_, y_, n_, n_, n_, n_, n_] rfl rfl (any_of HT_.out (by kernel_rfl)) (fun _ _ _ h => h) (Or.inl ⟨by rfl, ?_⟩) ?_ ?_
                   rotate_left
                   ·intro w'
                    go_simp
                    with_reducible rfl
                   rotate_left
                   ·simp only [Act.put, sI_, s0_, sS_, i64_w, i32_w]
                    rfl
                   refine take_ (i := 4) (N := some 101) (v := ?_) (a' := ?_) #[y_, y_, y_, y_, y_, y_, y_, y_, n_, n_, n_, n_, n_] rfl rfl (take_ofW HT_.out HW_.out (by kernel_rfl)) (fun _ _ _ h => h) (Or.inl ⟨by rfl, ?_⟩) hHeld ?_ ?_
                   rotate_left
                   ·rintro w' ⟨s0, s1⟩
                    go_simp
                    with_reducible rfl
                   rotate_left
                   ·simp only [Act.put, sI_, s0_, sS_, i64_w, i32_w]
                    rfl
                   refine take_ (i := 8) (N := some 105) (v := ?_) (a' := ?_) #[y_, y_, y_, y_, y_, y_, y_, y_, y_, n_, n_, n_, n_] rfl rfl (take_ofW HT_.out HW_.out (by kernel_rfl)) (fun _ _ _ h => h) (Or.inl ⟨by rfl, ?_⟩) hHeld ?_ ?_
                   rotate_left
                   ·rintro w' ⟨s0, s1⟩
                    go_simp
                    with_reducible rfl
                   rotate_left
                   ·simp only [Act.put, sI_, s0_, sS_, i64_w, i32_w]
                    rfl
                   refine pure_ (i := 9) (N := some 106) (v := ?_) (a' := ?_) #[y_, y_, y_, y_, y_, y_, y_, y_, y_, y_, n_, n_, n_] rfl rfl (any_of HT_.out (by kernel_rfl)) (fun _ _ _ h => h) (Or.inl ⟨by rfl, ?_⟩) ?_ ?_
                   rotate_left
                   ·intro w'
                    go_simp
                    with_reducible rfl
                   rotate_left
                   ·simp only [Act.put, sI_, s0_, sS_, i64_w, i32_w]
                    rfl
                   refine one_ (i := 10) (N := some 107) #[y_, y_, y_, y_, y_, y_, y_, y_, y_, y_, y_, n_, n_] rfl rfl (one_of HT_.out (by kernel_rfl)) (by decide) (fun K hK => ?_)
                   refine value_ (w1 := ?_) (v := ?_) (by rfl) rfl ?_ ?_
                   rotate_left 2
                   ·go_simp
                    constructor
                    ·rfl
                    ·rfl
                   refine hK.out _ _ ⟨(World.cell?_alloc_lt _ _ _ (World.block_lt_of_cell? _ _ (((HB.out.cell (World.block_lt_of_cell? w _ hw419_0)).trans hw419_0)))).trans (((HB.out.cell (World.block_lt_of_cell? w _ hw419_0)).trans hw419_0)), (World.cell?_alloc_lt _ _ _ (World.block_lt_of_cell? _ _ (((HB.out.cell (World.block_lt_of_cell? w _ hw420_0)).trans hw420_0)))).trans (((HB.out.cell (World.block_lt_of_cell? w _ hw420_0)).trans hw420_0))⟩ (fun hHeld => ?_)
                   clear hK K
                   refine norm_ (a' := ?_) ?_ ?_
                   rotate_left
                   ·show Act.put _ (some 107) _ = _
                    simp only [Act.put, sI_, s0_, sS_, i64_w, i32_w]
                    rfl
                   refine one_ (i := 11) (N := some 108) #[y_, y_, y_, y_, y_, y_, y_, y_, y_, y_, y_, y_, n_] rfl rfl (one_of HT_.out (by kernel_rfl)) (by decide) (fun K hK => ?_)
                   refine Kd.R_append_step (Kd.int .i64) (w0 := w) w.heap.size (by rfl) (.tmp 97) (.tmp 107) 24 3 (.int .i64 0) 8 rfl Try.underlying24 info3 rfl (by decide) (by omega) u13 x13_2 (wrap64 ((rd l3 x61_2) + (rd l4 x61_2))) [.int .i64 (wrap64 ((rd l3 x61_2) + (rd l4 x61_2)))] (fun _ => True) (fun _ => False) rfl rfl ?aP (fun _ hk => hk.elim) ?aF ?aO ?aB ?aS ?aL ?_
                   (case aP => exact rfl)
                   (case aB => exact (by repeat (first | (with_reducible first | exact HB.out | apply below_alloc | apply pw_below_drewN | apply below_drew1) | exact HB.out)))
                   (case aF => exact (fun _ _ => trivial))
                   (case aO => exact (by (with_reducible repeat (first | apply Kd.R_alloc | apply Kd.R_drewN | apply Kd.R_drew)); exact HO_13.out))
                   (case aS => exact (below_size (by repeat (first | (with_reducible first | exact HB.out | apply below_alloc | apply pw_below_drewN | apply below_drew1) | exact HB.out))))
                   (case aL => have := LMc39.out; omega)
                   intro v422 w43 ho hb hg hat
                   rw [← Ny421.out] at ho
                   have n0_ := Aside0.mk (Kd.R_over' (by (with_reducible repeat (first | apply Kd.R_alloc | apply Kd.R_drewN | apply Kd.R_drew)); exact HO_12.out) (Kd.R_typed (by (with_reducible repeat (first | apply Kd.R_alloc | apply Kd.R_drewN | apply Kd.R_drew)); exact HO_13.out)) (by decide) hg)
                   have n1_ := Aside0.mk (hb)
                   have n2_ := Aside0.mk (ho)
                   clear HO_12
                   clear HB
                   clear HO_13
                   have HO_12 := n0_
                   have HB := n1_
                   have HO423 := n2_
                   clear n0_ n1_ n2_
                   clear ho hb hg hat
                   refine hK.out _ _ ⟨((HB.out.cell (World.block_lt_of_cell? w _ hw419_0)).trans hw419_0), ((HB.out.cell (World.block_lt_of_cell? w _ hw420_0)).trans hw420_0)⟩ (fun hHeld => ?_)
                   clear hK K
                   refine norm_ (a' := ?_) ?_ ?_
                   rotate_left
                   ·show Act.put _ (some 108) _ = _
                    simp only [Act.put, sI_, s0_, sS_, i64_w, i32_w]
                    rfl
                   refine pure_ (i := 12) (N := some 13) (v := ?_) (a' := ?_) #[y_, y_, y_, y_, y_, y_, y_, y_, y_, y_, y_, y_, y_] rfl rfl (any_of HT_.out (by kernel_rfl)) (fun _ _ _ h => h) (Or.inl ⟨by rfl, ?_⟩) ?_ ?_
                   rotate_left
                   ·intro w'
                    go_simp
                    with_reducible rfl
                   rotate_left
                   ·simp only [Act.put, sI_, s0_, sS_, i64_w, i32_w]
                    rfl
                   refine done_ (done_of HT_.out (by kernel_rfl)) ?_
                   try go_wp2
                   go_roundg k2
                   case measure => have := HJ6.out; have := HK2.out; omega
                   case rel => exact ⟨(y418), (y421), (wrap64 (x61_2 + 1)), (by first | rfl | (simp; done) | (simp [*]; done)), H', ⟨by have := HJ6.out; have := HK2.out; omega⟩, ⟨by (with_reducible repeat (first | apply Kd.R_alloc | apply Kd.R_drewN | apply Kd.R_drew)); exact HO_12.out⟩, ⟨by (with_reducible repeat (first | apply Kd.R_alloc | apply Kd.R_drewN | apply Kd.R_drew)); exact HO423.out⟩, ⟨by repeat (first | (with_reducible first | exact HB.out | apply below_alloc | apply pw_below_drewN | apply below_drew1) | exact HB.out)⟩⟩
                  ·rw [if_neg c39] at H
                   exact absurd H (by simp)
                 ·rw [if_neg c38] at H
                  exact absurd H (by simp)
                ·rw [if_neg c37] at H
                 exact absurd H (by simp)
               ·rw [if_neg c35] at H
                exact absurd H (by simp)
             ·rw [if_neg c33] at H
              exact absurd H (by simp)
           ·rw [if_neg c31] at H
            exact absurd H (by simp)
         ·rw [if_neg c29] at H
          exact absurd H (by simp)
        ·rw [if_neg c28] at H
         exact absurd H (by simp)
       ·rw [if_neg c27] at H
        have c27b0 : decide (x61_2 < (l0.length : Int)) = false := decide_eq_false c27
        clear c27
        replace H := Option.bind_eq_some_iff.mp H
        obtain ⟨t424, A440, H⟩ := H
        replace H : ((cohousinglaw28_consistent.f x12_2 t424 x13_2).bind fun t427 => (if t427 = true then ((flow_Bounds.f l0 l1).bind fun bt428 => ((flow_Bounds.f l0 l2).bind fun bt432 => ((flow_Bounds.f x12_2 t424).bind fun bt436 => (if bt428.2 = 0 then (if bt432.2 = 0 then (if bt436.2 = 0 then (if (bt428.1.length : Int) = (l0.length : Int) then (if (bt432.1.length : Int) = (l0.length : Int) then (cohousinglaw28_FlowSums.j2 k2 l0 t405 bt428.1 bt432.1 bt436.1 ((bt436.1.length : Int) != (l0.length : Int))) else (cohousinglaw28_FlowSums.j2 k2 l0 t405 bt428.1 bt432.1 bt436.1 true)) else (cohousinglaw28_FlowSums.j2 k2 l0 t405 bt428.1 bt432.1 bt436.1 true)) else (cohousinglaw28_FlowSums.j2 k2 l0 t405 bt428.1 bt432.1 bt436.1 true)) else (cohousinglaw28_FlowSums.j2 k2 l0 t405 bt428.1 bt432.1 bt436.1 true)) else (cohousinglaw28_FlowSums.j2 k2 l0 t405 bt428.1 bt432.1 bt436.1 true))))) else (some false))) = some r := H
        have A44 := Aside0.mk A440
        clear A440
        replace H := Option.bind_eq_some_iff.mp H
        obtain ⟨t427, A450, H⟩ := H
        replace H : (if t427 = true then ((flow_Bounds.f l0 l1).bind fun bt428 => ((flow_Bounds.f l0 l2).bind fun bt432 => ((flow_Bounds.f x12_2 t424).bind fun bt436 => (if bt428.2 = 0 then (if bt432.2 = 0 then (if bt436.2 = 0 then (if (bt428.1.length : Int) = (l0.length : Int) then (if (bt432.1.length : Int) = (l0.length : Int) then (cohousinglaw28_FlowSums.j2 k2 l0 t405 bt428.1 bt432.1 bt436.1 ((bt436.1.length : Int) != (l0.length : Int))) else (cohousinglaw28_FlowSums.j2 k2 l0 t405 bt428.1 bt432.1 bt436.1 true)) else (cohousinglaw28_FlowSums.j2 k2 l0 t405 bt428.1 bt432.1 bt436.1 true)) else (cohousinglaw28_FlowSums.j2 k2 l0 t405 bt428.1 bt432.1 bt436.1 true)) else (cohousinglaw28_FlowSums.j2 k2 l0 t405 bt428.1 bt432.1 bt436.1 true)) else (cohousinglaw28_FlowSums.j2 k2 l0 t405 bt428.1 bt432.1 bt436.1 true))))) else (some false)) = some r := H
        have A45 := Aside0.mk A450
        clear A450
        by_cases c46 : t427 = true
        ·subst c46
         have H1 : ((flow_Bounds.f l0 l1).bind fun bt428 => ((flow_Bounds.f l0 l2).bind fun bt432 => ((flow_Bounds.f x12_2 t424).bind fun bt436 => (if bt428.2 = 0 then (if bt432.2 = 0 then (if bt436.2 = 0 then (if (bt428.1.length : Int) = (l0.length : Int) then (if (bt432.1.length : Int) = (l0.length : Int) then (cohousinglaw28_FlowSums.j2 k2 l0 t405 bt428.1 bt432.1 bt436.1 ((bt436.1.length : Int) != (l0.length : Int))) else (cohousinglaw28_FlowSums.j2 k2 l0 t405 bt428.1 bt432.1 bt436.1 true)) else (cohousinglaw28_FlowSums.j2 k2 l0 t405 bt428.1 bt432.1 bt436.1 true)) else (cohousinglaw28_FlowSums.j2 k2 l0 t405 bt428.1 bt432.1 bt436.1 true)) else (cohousinglaw28_FlowSums.j2 k2 l0 t405 bt428.1 bt432.1 bt436.1 true)) else (cohousinglaw28_FlowSums.j2 k2 l0 t405 bt428.1 bt432.1 bt436.1 true))))) = some r := by rw [if_pos rfl] at H; exact H
         clear H
         have H := H1
         clear H1
         replace H := Option.bind_eq_some_iff.mp H
         obtain ⟨⟨t428, t429⟩, A470, H⟩ := H
         replace H : ((flow_Bounds.f l0 l2).bind fun bt432 => ((flow_Bounds.f x12_2 t424).bind fun bt436 => (if t429 = 0 then (if bt432.2 = 0 then (if bt436.2 = 0 then (if (t428.length : Int) = (l0.length : Int) then (if (bt432.1.length : Int) = (l0.length : Int) then (cohousinglaw28_FlowSums.j2 k2 l0 t405 t428 bt432.1 bt436.1 ((bt436.1.length : Int) != (l0.length : Int))) else (cohousinglaw28_FlowSums.j2 k2 l0 t405 t428 bt432.1 bt436.1 true)) else (cohousinglaw28_FlowSums.j2 k2 l0 t405 t428 bt432.1 bt436.1 true)) else (cohousinglaw28_FlowSums.j2 k2 l0 t405 t428 bt432.1 bt436.1 true)) else (cohousinglaw28_FlowSums.j2 k2 l0 t405 t428 bt432.1 bt436.1 true)) else (cohousinglaw28_FlowSums.j2 k2 l0 t405 t428 bt432.1 bt436.1 true)))) = some r := H
         have A47 := Aside0.mk A470
         clear A470
         replace H := Option.bind_eq_some_iff.mp H
         obtain ⟨⟨t432, t433⟩, A480, H⟩ := H
         replace H : ((flow_Bounds.f x12_2 t424).bind fun bt436 => (if t429 = 0 then (if t433 = 0 then (if bt436.2 = 0 then (if (t428.length : Int) = (l0.length : Int) then (if (t432.length : Int) = (l0.length : Int) then (cohousinglaw28_FlowSums.j2 k2 l0 t405 t428 t432 bt436.1 ((bt436.1.length : Int) != (l0.length : Int))) else (cohousinglaw28_FlowSums.j2 k2 l0 t405 t428 t432 bt436.1 true)) else (cohousinglaw28_FlowSums.j2 k2 l0 t405 t428 t432 bt436.1 true)) else (cohousinglaw28_FlowSums.j2 k2 l0 t405 t428 t432 bt436.1 true)) else (cohousinglaw28_FlowSums.j2 k2 l0 t405 t428 t432 bt436.1 true)) else (cohousinglaw28_FlowSums.j2 k2 l0 t405 t428 t432 bt436.1 true))) = some r := H
         have A48 := Aside0.mk A480
         clear A480
         replace H := Option.bind_eq_some_iff.mp H
         obtain ⟨⟨t436, t437⟩, A490, H⟩ := H
         replace H : (if t429 = 0 then (if t433 = 0 then (if t437 = 0 then (if (t428.length : Int) = (l0.length : Int) then (if (t432.length : Int) = (l0.length : Int) then (cohousinglaw28_FlowSums.j2 k2 l0 t405 t428 t432 t436 ((t436.length : Int) != (l0.length : Int))) else (cohousinglaw28_FlowSums.j2 k2 l0 t405 t428 t432 t436 true)) else (cohousinglaw28_FlowSums.j2 k2 l0 t405 t428 t432 t436 true)) else (cohousinglaw28_FlowSums.j2 k2 l0 t405 t428 t432 t436 true)) else (cohousinglaw28_FlowSums.j2 k2 l0 t405 t428 t432 t436 true)) else (cohousinglaw28_FlowSums.j2 k2 l0 t405 t428 t432 t436 true)) = some r := H
         have A49 := Aside0.mk A490
         clear A490
         have HC50 := Aside0.mk H
         clear H
         go_upto_region 20 with (first | ((with_reducible refine gate_callee (f := 23) rfl ?_); refine goesL_ (some 112) rfl rfl Try.func23 (by kernel_rfl) rfl #[.slice A1 l1.length c1, .slice A2 l2.length c2] rfl (by (try simp only [List.map_toArray, List.map_cons, List.map_nil]); first | done | rfl | (simp only [List.length_drop, List.length_take]; rfl)) ?_; (with_reducible refine (cohousingref28_Add.calls k2 _ _ l1 _ _ l2 t424 _ ?side1 ?side2 ?side3 ?side4 A44.out).mono ?_); (case side1 => repeat (first | exact (Kd.C_below HR1.out HB.out) | (with_reducible refine Kd.C_alloc ?_ _) | (with_reducible refine Kd.C_drewN ?_ _) | (with_reducible refine Kd.C_drew ?_))); (case side2 => exact HC1.out); (case side3 => repeat (first | exact (Kd.C_below HR2.out HB.out) | (with_reducible refine Kd.C_alloc ?_ _) | (with_reducible refine Kd.C_drewN ?_ _) | (with_reducible refine Kd.C_drew ?_))); (case side4 => exact HC2.out); rintro e w51 ⟨v425, rfl, ho0, hb⟩; refine ⟨_, rfl, ?_⟩; have n0_ := Aside0.mk (Kd.R_below (by (with_reducible repeat (first | apply Kd.R_alloc | apply Kd.R_drewN | apply Kd.R_drew)); exact HO_12.out) hb); have n1_ := Aside0.mk (Kd.R_below (by (with_reducible repeat (first | apply Kd.R_alloc | apply Kd.R_drewN | apply Kd.R_drew)); exact HO_13.out) hb); have n2_ := Aside0.mk (Kd.R_lower ho0 (below_size (by repeat (first | (with_reducible first | exact HB.out | apply below_alloc | apply pw_below_drewN | apply below_drew1) | exact HB.out)))); have n3_ := Aside0.mk (below_step (by repeat (first | (with_reducible first | exact HB.out | apply below_alloc | apply pw_below_drewN | apply below_drew1) | exact HB.out)) hb); clear HO_12; clear HO_13; clear HB; have HO_12 := n0_; have HO_13 := n1_; have HO426 := n2_; have HB := n3_; clear n0_ n1_ n2_ n3_; (try clear hb); (try clear hb2); (try clear hk); (try clear hi); (try clear ho0); obtain ⟨Ao52, co52, eo52⟩ := Kd.R_slice HO_12.out; subst eo52; obtain ⟨Ao53, co53, eo53⟩ := Kd.R_slice HO426.out; subst eo53; obtain ⟨Ao54, co54, eo54⟩ := Kd.R_slice HO_13.out; subst eo54) | ((with_reducible refine gate_callee (f := 22) rfl ?_); refine goesL_ (some 116) rfl rfl Try.func22 (by kernel_rfl) rfl #[.slice Ao52 x12_2.length co52, .slice Ao53 t424.length co53, .slice Ao54 x13_2.length co54] rfl (by (try simp only [List.map_toArray, List.map_cons, List.map_nil]); first | done | rfl | (simp only [List.length_drop, List.length_take]; rfl)) ?_; (with_reducible refine (cohousinglaw28_consistent.calls _ _ x12_2 _ _ t424 _ _ x13_2 true _ ?side1 ?side2 ?side3 ?side4 ?side5 ?side6 A45.out).mono ?_); (case side1 => repeat (first | exact (Kd.R_reads' HO_12.out).2.2 | (with_reducible refine Kd.C_alloc ?_ _) | (with_reducible refine Kd.C_drewN ?_ _) | (with_reducible refine Kd.C_drew ?_))); (case side2 => exact (Kd.R_reads' HO_12.out).2.1); (case side3 => repeat (first | exact (Kd.R_reads' HO426.out).2.2 | (with_reducible refine Kd.C_alloc ?_ _) | (with_reducible refine Kd.C_drewN ?_ _) | (with_reducible refine Kd.C_drew ?_))); (case side4 => exact (Kd.R_reads' HO426.out).2.1); (case side5 => repeat (first | exact (Kd.R_reads' HO_13.out).2.2 | (with_reducible refine Kd.C_alloc ?_ _) | (with_reducible refine Kd.C_drewN ?_ _) | (with_reducible refine Kd.C_drew ?_))); (case side6 => exact (Kd.R_reads' HO_13.out).2.1); rintro e w55 ⟨rfl, hb⟩; refine ⟨_, rfl, ?_⟩; have n0_ := Aside0.mk (Kd.R_below (by (with_reducible repeat (first | apply Kd.R_alloc | apply Kd.R_drewN | apply Kd.R_drew)); exact HO_12.out) hb); have n1_ := Aside0.mk (Kd.R_below (by (with_reducible repeat (first | apply Kd.R_alloc | apply Kd.R_drewN | apply Kd.R_drew)); exact HO_13.out) hb); have n2_ := Aside0.mk (Kd.R_below (by (with_reducible repeat (first | apply Kd.R_alloc | apply Kd.R_drewN | apply Kd.R_drew)); exact HO426.out) hb); have n3_ := Aside0.mk (below_step (by repeat (first | (with_reducible first | exact HB.out | apply below_alloc | apply pw_below_drewN | apply below_drew1) | exact HB.out)) hb); clear HO_12; clear HO_13; clear HO426; clear HB; have HO_12 := n0_; have HO_13 := n1_; have HO426 := n2_; have HB := n3_; clear n0_ n1_ n2_ n3_; (try clear hb); (try clear hb2); (try clear hk); (try clear hi)) | ((with_reducible refine gate_callee (f := 11) rfl ?_); refine goesL_ (some 121) rfl rfl Try.func11 (by kernel_rfl) rfl #[.slice A0 l0.length c0, .slice A1 l1.length c1] rfl (by (try simp only [List.map_toArray, List.map_cons, List.map_nil]); first | done | rfl | (simp only [List.length_drop, List.length_take]; rfl)) ?_; (with_reducible refine (flow_Bounds.calls _ _ l0 _ _ l1 t428 t429 _ ?side1 ?side2 ?side3 ?side4 A47.out).mono ?_); (case side1 => repeat (first | exact (Kd.C_below HR0.out HB.out) | (with_reducible refine Kd.C_alloc ?_ _) | (with_reducible refine Kd.C_drewN ?_ _) | (with_reducible refine Kd.C_drew ?_))); (case side2 => exact HC0.out); (case side3 => repeat (first | exact (Kd.C_below HR1.out HB.out) | (with_reducible refine Kd.C_alloc ?_ _) | (with_reducible refine Kd.C_drewN ?_ _) | (with_reducible refine Kd.C_drew ?_))); (case side4 => exact HC1.out); rintro e w56 ⟨v430, rfl, ho0, hb⟩; refine ⟨_, rfl, ?_⟩; have n0_ := Aside0.mk (Kd.R_below (by (with_reducible repeat (first | apply Kd.R_alloc | apply Kd.R_drewN | apply Kd.R_drew)); exact HO_12.out) hb); have n1_ := Aside0.mk (Kd.R_below (by (with_reducible repeat (first | apply Kd.R_alloc | apply Kd.R_drewN | apply Kd.R_drew)); exact HO_13.out) hb); have n2_ := Aside0.mk (Kd.R_elder' (by (with_reducible repeat (first | apply Kd.R_alloc | apply Kd.R_drewN | apply Kd.R_drew)); exact HO426.out) (Kd.R_base ho0) hb); have n3_ := Aside0.mk (Kd.R_lower (Kd.R_new' ho0 (Kd.R_lt (by (with_reducible repeat (first | apply Kd.R_alloc | apply Kd.R_drewN | apply Kd.R_drew)); exact HO426.out))) (below_size (by repeat (first | (with_reducible first | exact HB.out | apply below_alloc | apply pw_below_drewN | apply below_drew1) | exact HB.out)))); have n4_ := Aside0.mk (below_step (by repeat (first | (with_reducible first | exact HB.out | apply below_alloc | apply pw_below_drewN | apply below_drew1) | exact HB.out)) hb); clear HO_12; clear HO_13; clear HO426; clear HB; have HO_12 := n0_; have HO_13 := n1_; have HO426 := n2_; have HO431 := n3_; have HB := n4_; clear n0_ n1_ n2_ n3_ n4_; (try clear hb); (try clear hb2); (try clear hk); (try clear hi); (try clear ho0)) | ((with_reducible refine gate_callee (f := 11) rfl ?_); refine goesL_ (some 127) rfl rfl Try.func11 (by kernel_rfl) rfl #[.slice A0 l0.length c0, .slice A2 l2.length c2] rfl (by (try simp only [List.map_toArray, List.map_cons, List.map_nil]); first | done | rfl | (simp only [List.length_drop, List.length_take]; rfl)) ?_; (with_reducible refine (flow_Bounds.calls _ _ l0 _ _ l2 t432 t433 _ ?side1 ?side2 ?side3 ?side4 A48.out).mono ?_); (case side1 => repeat (first | exact (Kd.C_below HR0.out HB.out) | (with_reducible refine Kd.C_alloc ?_ _) | (with_reducible refine Kd.C_drewN ?_ _) | (with_reducible refine Kd.C_drew ?_))); (case side2 => exact HC0.out); (case side3 => repeat (first | exact (Kd.C_below HR2.out HB.out) | (with_reducible refine Kd.C_alloc ?_ _) | (with_reducible refine Kd.C_drewN ?_ _) | (with_reducible refine Kd.C_drew ?_))); (case side4 => exact HC2.out); rintro e w57 ⟨v434, rfl, ho0, hb⟩; refine ⟨_, rfl, ?_⟩; have n0_ := Aside0.mk (Kd.R_below (by (with_reducible repeat (first | apply Kd.R_alloc | apply Kd.R_drewN | apply Kd.R_drew)); exact HO_12.out) hb); have n1_ := Aside0.mk (Kd.R_below (by (with_reducible repeat (first | apply Kd.R_alloc | apply Kd.R_drewN | apply Kd.R_drew)); exact HO_13.out) hb); have n2_ := Aside0.mk (Kd.R_elder' (by (with_reducible repeat (first | apply Kd.R_alloc | apply Kd.R_drewN | apply Kd.R_drew)); exact HO426.out) (Kd.R_base ho0) hb); have n3_ := Aside0.mk (Kd.R_elder' (by (with_reducible repeat (first | apply Kd.R_alloc | apply Kd.R_drewN | apply Kd.R_drew)); exact HO431.out) (Kd.R_base ho0) hb); have n4_ := Aside0.mk (Kd.R_lower (Kd.R_new' (Kd.R_new' ho0 (Kd.R_lt (by (with_reducible repeat (first | apply Kd.R_alloc | apply Kd.R_drewN | apply Kd.R_drew)); exact HO426.out))) (Kd.R_lt (by (with_reducible repeat (first | apply Kd.R_alloc | apply Kd.R_drewN | apply Kd.R_drew)); exact HO431.out))) (below_size (by repeat (first | (with_reducible first | exact HB.out | apply below_alloc | apply pw_below_drewN | apply below_drew1) | exact HB.out)))); have n5_ := Aside0.mk (below_step (by repeat (first | (with_reducible first | exact HB.out | apply below_alloc | apply pw_below_drewN | apply below_drew1) | exact HB.out)) hb); clear HO_12; clear HO_13; clear HO426; clear HO431; clear HB; have HO_12 := n0_; have HO_13 := n1_; have HO426 := n2_; have HO431 := n3_; have HO435 := n4_; have HB := n5_; clear n0_ n1_ n2_ n3_ n4_ n5_; (try clear hb); (try clear hb2); (try clear hk); (try clear hi); (try clear ho0)) | ((with_reducible refine gate_callee (f := 11) rfl ?_); refine goesL_ (some 133) rfl rfl Try.func11 (by kernel_rfl) rfl #[.slice Ao52 x12_2.length co52, .slice Ao53 t424.length co53] rfl (by (try simp only [List.map_toArray, List.map_cons, List.map_nil]); first | done | rfl | (simp only [List.length_drop, List.length_take]; rfl)) ?_; (with_reducible refine (flow_Bounds.calls _ _ x12_2 _ _ t424 t436 t437 _ ?side1 ?side2 ?side3 ?side4 A49.out).mono ?_); (case side1 => repeat (first | exact (Kd.R_reads' HO_12.out).2.2 | (with_reducible refine Kd.C_alloc ?_ _) | (with_reducible refine Kd.C_drewN ?_ _) | (with_reducible refine Kd.C_drew ?_))); (case side2 => exact (Kd.R_reads' HO_12.out).2.1); (case side3 => repeat (first | exact (Kd.R_reads' HO426.out).2.2 | (with_reducible refine Kd.C_alloc ?_ _) | (with_reducible refine Kd.C_drewN ?_ _) | (with_reducible refine Kd.C_drew ?_))); (case side4 => exact (Kd.R_reads' HO426.out).2.1); rintro e w58 ⟨v438, rfl, ho0, hb⟩; refine ⟨_, rfl, ?_⟩; have n0_ := Aside0.mk (Kd.R_below (by (with_reducible repeat (first | apply Kd.R_alloc | apply Kd.R_drewN | apply Kd.R_drew)); exact HO_12.out) hb); have n1_ := Aside0.mk (Kd.R_below (by (with_reducible repeat (first | apply Kd.R_alloc | apply Kd.R_drewN | apply Kd.R_drew)); exact HO_13.out) hb); have n2_ := Aside0.mk (Kd.R_elder' (by (with_reducible repeat (first | apply Kd.R_alloc | apply Kd.R_drewN | apply Kd.R_drew)); exact HO426.out) (Kd.R_base ho0) hb); have n3_ := Aside0.mk (Kd.R_elder' (by (with_reducible repeat (first | apply Kd.R_alloc | apply Kd.R_drewN | apply Kd.R_drew)); exact HO431.out) (Kd.R_base ho0) hb); have n4_ := Aside0.mk (Kd.R_elder' (by (with_reducible repeat (first | apply Kd.R_alloc | apply Kd.R_drewN | apply Kd.R_drew)); exact HO435.out) (Kd.R_base ho0) hb); have n5_ := Aside0.mk (Kd.R_lower (Kd.R_new' (Kd.R_new' (Kd.R_new' ho0 (Kd.R_lt (by (with_reducible repeat (first | apply Kd.R_alloc | apply Kd.R_drewN | apply Kd.R_drew)); exact HO426.out))) (Kd.R_lt (by (with_reducible repeat (first | apply Kd.R_alloc | apply Kd.R_drewN | apply Kd.R_drew)); exact HO431.out))) (Kd.R_lt (by (with_reducible repeat (first | apply Kd.R_alloc | apply Kd.R_drewN | apply Kd.R_drew)); exact HO435.out))) (below_size (by repeat (first | (with_reducible first | exact HB.out | apply below_alloc | apply pw_below_drewN | apply below_drew1) | exact HB.out)))); have n6_ := Aside0.mk (below_step (by repeat (first | (with_reducible first | exact HB.out | apply below_alloc | apply pw_below_drewN | apply below_drew1) | exact HB.out)) hb); clear HO_12; clear HO_13; clear HO426; clear HO431; clear HO435; clear HB; have HO_12 := n0_; have HO_13 := n1_; have HO426 := n2_; have HO431 := n3_; have HO435 := n4_; have HO439 := n5_; have HB := n6_; clear n0_ n1_ n2_ n3_ n4_ n5_ n6_; (try clear hb); (try clear hb2); (try clear hk); (try clear hi); (try clear ho0)))
         (try simp only [Act.put, sI_, s0_, sS_])
         go_cut [166] (fun v166 wc => ∃ (kq : Nat) (x166_49 : Bool), v166 = .bool x166_49 ∧ Aside0 (cohousinglaw28_FlowSums.j2 kq l0 t405 t428 t432 t436 x166_49 = some r) ∧ Aside0 (kq ≤ k2) ∧ Aside0 (Kd.R k39 39 wc w.heap.size (fun k_ => some k_ ≠ (v434 : Value).ownBlock ∧ some k_ ≠ (v438 : Value).ownBlock) v430 t428) ∧ Aside0 (Kd.R k39 39 wc w.heap.size (fun k_ => some k_ ≠ (v430 : Value).ownBlock ∧ some k_ ≠ (v438 : Value).ownBlock) v434 t432) ∧ Aside0 (Kd.R k39 39 wc w.heap.size (fun k_ => some k_ ≠ (v430 : Value).ownBlock ∧ some k_ ≠ (v434 : Value).ownBlock) v438 t436) ∧ Aside0 (Below w.heap.size w wc))
         case first => as_aux_lemma =>
          have H := HC50.out
          clear HC50
          by_cases c59 : t429 = 0
          ·rw [if_pos c59] at H
           have c59b0 : (t429 == 0) = true := beq_iff_eq.mpr c59
           have c59b1 : (t429 != 0) = false := bne_eq_false_iff_eq.mpr c59
           clear c59
           (first | rw [c59b0] | (simp only [i64_w, i32_w]; rw [c59b0]) | skip)
           by_cases c60 : t433 = 0
           ·rw [if_pos c60] at H
            have c60b0 : (t433 == 0) = true := beq_iff_eq.mpr c60
            have c60b1 : (t433 != 0) = false := bne_eq_false_iff_eq.mpr c60
            clear c60
            by_cases c61 : t437 = 0
            ·rw [if_pos c61] at H
             have c61b0 : (t437 == 0) = true := beq_iff_eq.mpr c61
             have c61b1 : (t437 != 0) = false := bne_eq_false_iff_eq.mpr c61
             clear c61
             by_cases c62 : (t428.length : Int) = (l0.length : Int)
             ·rw [if_pos c62] at H
              have c62b0 : ((t428.length : Int) == (l0.length : Int)) = true := beq_iff_eq.mpr c62
              have c62b1 : ((t428.length : Int) != (l0.length : Int)) = false := bne_eq_false_iff_eq.mpr c62
              have c62b2 : (t428.length == l0.length) = true := by first | simpa using c62 | (simp at c62 ⊢; omega)
              clear c62
              by_cases c63 : (t432.length : Int) = (l0.length : Int)
              ·rw [if_pos c63] at H
               have c63b0 : ((t432.length : Int) == (l0.length : Int)) = true := beq_iff_eq.mpr c63
               have c63b1 : ((t432.length : Int) != (l0.length : Int)) = false := bne_eq_false_iff_eq.mpr c63
               have c63b2 : (t432.length == l0.length) = true := by first | simpa using c63 | (simp at c63 ⊢; omega)
               clear c63
               have H' := Aside0.mk H
               clear H
               obtain ⟨Ao64, co64, eo64⟩ := Kd.R_slice HO431.out
               subst eo64
               obtain ⟨Ao65, co65, eo65⟩ := Kd.R_slice HO435.out
               subst eo65
               obtain ⟨Ao66, co66, eo66⟩ := Kd.R_slice HO439.out
               subst eo66
               go_wp2
               go_meet
               case rel => exact ⟨_, (((t436.length : Int) != (l0.length : Int))), (by first | rfl | (simp; done) | (simp [*]; done)), H', ⟨by have := HJ6.out; have := HK2.out; first | omega | exact Nat.le_refl _⟩, ⟨by (with_reducible repeat (first | apply Kd.R_alloc | apply Kd.R_drewN | apply Kd.R_drew)); exact Kd.R_mono HO431.out (fun _ hk => ⟨hk.1.2, hk.2⟩)⟩, ⟨by (with_reducible repeat (first | apply Kd.R_alloc | apply Kd.R_drewN | apply Kd.R_drew)); exact Kd.R_mono HO435.out (fun _ hk => ⟨hk.1.2, hk.2⟩)⟩, ⟨by (with_reducible repeat (first | apply Kd.R_alloc | apply Kd.R_drewN | apply Kd.R_drew)); exact Kd.R_mono HO439.out (fun _ hk => ⟨hk.1.2, hk.2⟩)⟩, ⟨by repeat (first | (with_reducible first | exact HB.out | apply below_alloc | apply pw_below_drewN | apply below_drew1) | exact HB.out)⟩⟩
              ·rw [if_neg c63] at H
               have c63b0 : ((t432.length : Int) == (l0.length : Int)) = false := beq_eq_false_iff_ne.mpr c63
               have c63b1 : ((t432.length : Int) != (l0.length : Int)) = true := bne_iff_ne.mpr c63
               have c63b2 : (t432.length == l0.length) = false := by first | simpa using c63 | (simp at c63 ⊢; omega)
               have H' := Aside0.mk H
               clear H
               obtain ⟨Ao67, co67, eo67⟩ := Kd.R_slice HO431.out
               subst eo67
               obtain ⟨Ao68, co68, eo68⟩ := Kd.R_slice HO435.out
               subst eo68
               go_wp2
               go_meet
               case rel => exact ⟨_, (true), (by first | rfl | (simp; done) | (simp [*]; done)), H', ⟨by have := HJ6.out; have := HK2.out; first | omega | exact Nat.le_refl _⟩, ⟨by (with_reducible repeat (first | apply Kd.R_alloc | apply Kd.R_drewN | apply Kd.R_drew)); exact Kd.R_mono HO431.out (fun _ hk => ⟨hk.1.2, hk.2⟩)⟩, ⟨by (with_reducible repeat (first | apply Kd.R_alloc | apply Kd.R_drewN | apply Kd.R_drew)); exact Kd.R_mono HO435.out (fun _ hk => ⟨hk.1.2, hk.2⟩)⟩, ⟨by (with_reducible repeat (first | apply Kd.R_alloc | apply Kd.R_drewN | apply Kd.R_drew)); exact Kd.R_mono HO439.out (fun _ hk => ⟨hk.1.2, hk.2⟩)⟩, ⟨by repeat (first | (with_reducible first | exact HB.out | apply below_alloc | apply pw_below_drewN | apply below_drew1) | exact HB.out)⟩⟩
             ·rw [if_neg c62] at H
              have c62b0 : ((t428.length : Int) == (l0.length : Int)) = false := beq_eq_false_iff_ne.mpr c62
              have c62b1 : ((t428.length : Int) != (l0.length : Int)) = true := bne_iff_ne.mpr c62
              have c62b2 : (t428.length == l0.length) = false := by first | simpa using c62 | (simp at c62 ⊢; omega)
              have H' := Aside0.mk H
              clear H
              obtain ⟨Ao69, co69, eo69⟩ := Kd.R_slice HO431.out
              subst eo69
              go_wp2
              go_meet
              case rel => exact ⟨_, (true), (by first | rfl | (simp; done) | (simp [*]; done)), H', ⟨by have := HJ6.out; have := HK2.out; first | omega | exact Nat.le_refl _⟩, ⟨by (with_reducible repeat (first | apply Kd.R_alloc | apply Kd.R_drewN | apply Kd.R_drew)); exact Kd.R_mono HO431.out (fun _ hk => ⟨hk.1.2, hk.2⟩)⟩, ⟨by (with_reducible repeat (first | apply Kd.R_alloc | apply Kd.R_drewN | apply Kd.R_drew)); exact Kd.R_mono HO435.out (fun _ hk => ⟨hk.1.2, hk.2⟩)⟩, ⟨by (with_reducible repeat (first | apply Kd.R_alloc | apply Kd.R_drewN | apply Kd.R_drew)); exact Kd.R_mono HO439.out (fun _ hk => ⟨hk.1.2, hk.2⟩)⟩, ⟨by repeat (first | (with_reducible first | exact HB.out | apply below_alloc | apply pw_below_drewN | apply below_drew1) | exact HB.out)⟩⟩
            ·rw [if_neg c61] at H
             have c61b0 : (t437 == 0) = false := beq_eq_false_iff_ne.mpr c61
             have c61b1 : (t437 != 0) = true := bne_iff_ne.mpr c61
             have H' := Aside0.mk H
             clear H
             go_wp2
             go_meet
             case rel => exact ⟨_, (true), (by first | rfl | (simp; done) | (simp [*]; done)), H', ⟨by have := HJ6.out; have := HK2.out; first | omega | exact Nat.le_refl _⟩, ⟨by (with_reducible repeat (first | apply Kd.R_alloc | apply Kd.R_drewN | apply Kd.R_drew)); exact Kd.R_mono HO431.out (fun _ hk => ⟨hk.1.2, hk.2⟩)⟩, ⟨by (with_reducible repeat (first | apply Kd.R_alloc | apply Kd.R_drewN | apply Kd.R_drew)); exact Kd.R_mono HO435.out (fun _ hk => ⟨hk.1.2, hk.2⟩)⟩, ⟨by (with_reducible repeat (first | apply Kd.R_alloc | apply Kd.R_drewN | apply Kd.R_drew)); exact Kd.R_mono HO439.out (fun _ hk => ⟨hk.1.2, hk.2⟩)⟩, ⟨by repeat (first | (with_reducible first | exact HB.out | apply below_alloc | apply pw_below_drewN | apply below_drew1) | exact HB.out)⟩⟩
           ·rw [if_neg c60] at H
            have c60b0 : (t433 == 0) = false := beq_eq_false_iff_ne.mpr c60
            have c60b1 : (t433 != 0) = true := bne_iff_ne.mpr c60
            have H' := Aside0.mk H
            clear H
            go_wp2
            go_meet
            case rel => exact ⟨_, (true), (by first | rfl | (simp; done) | (simp [*]; done)), H', ⟨by have := HJ6.out; have := HK2.out; first | omega | exact Nat.le_refl _⟩, ⟨by (with_reducible repeat (first | apply Kd.R_alloc | apply Kd.R_drewN | apply Kd.R_drew)); exact Kd.R_mono HO431.out (fun _ hk => ⟨hk.1.2, hk.2⟩)⟩, ⟨by (with_reducible repeat (first | apply Kd.R_alloc | apply Kd.R_drewN | apply Kd.R_drew)); exact Kd.R_mono HO435.out (fun _ hk => ⟨hk.1.2, hk.2⟩)⟩, ⟨by (with_reducible repeat (first | apply Kd.R_alloc | apply Kd.R_drewN | apply Kd.R_drew)); exact Kd.R_mono HO439.out (fun _ hk => ⟨hk.1.2, hk.2⟩)⟩, ⟨by repeat (first | (with_reducible first | exact HB.out | apply below_alloc | apply pw_below_drewN | apply below_drew1) | exact HB.out)⟩⟩
          ·rw [if_neg c59] at H
           have c59b0 : (t429 == 0) = false := beq_eq_false_iff_ne.mpr c59
           have c59b1 : (t429 != 0) = true := bne_iff_ne.mpr c59
           (first | rw [c59b0] | (simp only [i64_w, i32_w]; rw [c59b0]) | skip)
           have H' := Aside0.mk H
           clear H
           go_wp2
           go_meet
           case rel => exact ⟨_, (true), (by first | rfl | (simp; done) | (simp [*]; done)), H', ⟨by have := HJ6.out; have := HK2.out; first | omega | exact Nat.le_refl _⟩, ⟨by (with_reducible repeat (first | apply Kd.R_alloc | apply Kd.R_drewN | apply Kd.R_drew)); exact Kd.R_mono HO431.out (fun _ hk => ⟨hk.1.2, hk.2⟩)⟩, ⟨by (with_reducible repeat (first | apply Kd.R_alloc | apply Kd.R_drewN | apply Kd.R_drew)); exact Kd.R_mono HO435.out (fun _ hk => ⟨hk.1.2, hk.2⟩)⟩, ⟨by (with_reducible repeat (first | apply Kd.R_alloc | apply Kd.R_drewN | apply Kd.R_drew)); exact Kd.R_mono HO439.out (fun _ hk => ⟨hk.1.2, hk.2⟩)⟩, ⟨by repeat (first | (with_reducible first | exact HB.out | apply below_alloc | apply pw_below_drewN | apply below_drew1) | exact HB.out)⟩⟩
         case rest => as_aux_lemma =>
          clear HC50
          try clear c1
          try clear c2
          try clear p2
          try clear c3
          try clear p3
          try clear q3
          try clear hx3
          try clear c4
          try clear p4
          try clear q4
          try clear hx4
          try clear c5
          try clear c6
          try clear p6
          try clear c7
          try clear c9
          try clear c9b0
          try clear c9b1
          try clear c10
          try clear c11
          try clear c13
          try clear c14
          try clear c14b0
          try clear c14b1
          try clear c14b2
          try clear c22
          try clear c23
          try clear c27
          try clear c27b0
          try clear c28
          try clear c28b0
          try clear c29
          try clear c29b0
          try clear c30
          try clear c30b0
          try clear c31
          try clear c31b0
          try clear c32
          try clear c32b0
          try clear c33
          try clear c33b0
          try clear c34
          try clear c34b0
          try clear c35
          try clear c35b0
          try clear c36
          try clear p36
          try clear q36
          try clear hx36
          try clear hf36
          try clear c37
          try clear c37b0
          try clear c38
          try clear c38b0
          try clear c39
          try clear c40
          try clear hx40
          try clear hf40
          try clear p41
          try clear q41
          try clear hx41
          try clear p42
          try clear q42
          try clear hx42
          try clear c46
          try clear c59
          try clear c59b0
          try clear c59b1
          try clear c60
          try clear c60b0
          try clear c60b1
          try clear c61
          try clear c61b0
          try clear c61b1
          try clear c62
          try clear c62b0
          try clear c62b1
          try clear c62b2
          try clear c63
          try clear c63b0
          try clear c63b1
          try clear c63b2
          try clear p64
          try clear hx36_0
          try clear hx36_1
          try clear hx36_2
          try clear hx40_2
          try clear hx414_0
          try clear hx414_1
          try clear hx414_2
          try clear hx415_0
          try clear hx415_1
          try clear hx416_0
          try clear hx416_1
          try clear hx417_0
          try clear hx417_1
          try clear hx417_2
          try clear hx419_0
          try clear hx420_0
          try clear p2
          try clear p36
          try clear p414
          try clear p415
          try clear p416
          try clear p417
          try clear p419
          try clear p420
          try clear q36
          try clear q414
          try clear q415
          try clear q416
          try clear q417
          try clear q419
          try clear q420
          obtain ⟨kq, x166_49, rfl, HA, HJ49, HO_16, HO_18, HO_20, HB⟩ := hcut
          cases kq with
          | zero => exact absurd HA.out (by simp [cohousinglaw28_FlowSums.j2])
          | succ kj49 =>
           have H := HA.out
           clear HA
           simp only [cohousinglaw28_FlowSums.j2] at H
           by_cases c70 : x166_49 = true
           ·subst c70
            have H1 : (some false) = some r := by rw [if_pos rfl] at H; exact H
            clear H
            have H := H1
            clear H1
            obtain rfl := Option.some.inj H
            go_wp2
            go_ret
            exact ⟨by first | rfl | (simp [errW_none, errW_some] <;> rfl) | (simp [*, errW_none, errW_some] <;> rfl), by repeat (first | (with_reducible first | exact HB.out | apply below_alloc | apply pw_below_drewN | apply below_drew1) | exact HB.out)⟩
           ·replace c70 := Bool.eq_false_iff.mpr c70
            subst c70
            have H1 : (cohousinglaw28_FlowSums.l1 kj49 t405 t428 t432 t436 (l0.length : Int) 0) = some r := by rw [if_neg (show ¬ (false = true) by decide)] at H; exact H
            clear H
            have H := H1
            clear H1
            have H' := Aside0.mk H
            clear H
            go_wp2
            go_loopg [11, 169] kj49 (fun kq v11 v169 w' => ∃ (x11_4 : Bool) (x169_4 : Int), v11 = .bool x11_4 ∧ v169 = .int .i64 x169_4 ∧ Aside0 (cohousinglaw28_FlowSums.l1 kq x11_4 t428 t432 t436 (l0.length : Int) x169_4 = some r) ∧ Aside0 (kq ≤ kj49) ∧ Aside0 (Kd.R k39 39 w' w.heap.size (fun k_ => some k_ ≠ (v434 : Value).ownBlock ∧ some k_ ≠ (v438 : Value).ownBlock) v430 t428) ∧ Aside0 (Kd.R k39 39 w' w.heap.size (fun k_ => some k_ ≠ (v430 : Value).ownBlock ∧ some k_ ≠ (v438 : Value).ownBlock) v434 t432) ∧ Aside0 (Kd.R k39 39 w' w.heap.size (fun k_ => some k_ ≠ (v430 : Value).ownBlock ∧ some k_ ≠ (v434 : Value).ownBlock) v438 t436) ∧ Aside0 (Below w.heap.size w w'))
            case atStart => exact ⟨(t405), (0), (by first | rfl | (simp; done) | (simp [*]; done)), (by first | rfl | (simp; done) | (simp [*]; done)), H', ⟨Nat.le_refl _⟩, ⟨by (with_reducible repeat (first | apply Kd.R_alloc | apply Kd.R_drewN | apply Kd.R_drew)); exact HO_16.out⟩, ⟨by (with_reducible repeat (first | apply Kd.R_alloc | apply Kd.R_drewN | apply Kd.R_drew)); exact HO_18.out⟩, ⟨by (with_reducible repeat (first | apply Kd.R_alloc | apply Kd.R_drewN | apply Kd.R_drew)); exact HO_20.out⟩, ⟨by repeat (first | (with_reducible first | exact HB.out | apply below_alloc | apply pw_below_drewN | apply below_drew1) | exact HB.out)⟩⟩
            case round => as_aux_lemma =>
             clear H'
             try clear c1
             try clear c2
             try clear p2
             try clear c3
             try clear p3
             try clear q3
             try clear hx3
             try clear c4
             try clear p4
             try clear q4
             try clear hx4
             try clear c5
             try clear c6
             try clear p6
             try clear c7
             try clear c9
             try clear c9b0
             try clear c9b1
             try clear c10
             try clear c11
             try clear c13
             try clear c14
             try clear c14b0
             try clear c14b1
             try clear c14b2
             try clear c22
             try clear c23
             try clear c27
             try clear c27b0
             try clear c28
             try clear c28b0
             try clear c29
             try clear c29b0
             try clear c30
             try clear c30b0
             try clear c31
             try clear c31b0
             try clear c32
             try clear c32b0
             try clear c33
             try clear c33b0
             try clear c34
             try clear c34b0
             try clear c35
             try clear c35b0
             try clear c36
             try clear p36
             try clear q36
             try clear hx36
             try clear hf36
             try clear c37
             try clear c37b0
             try clear c38
             try clear c38b0
             try clear c39
             try clear c40
             try clear hx40
             try clear hf40
             try clear p41
             try clear q41
             try clear hx41
             try clear p42
             try clear q42
             try clear hx42
             try clear c46
             try clear c59
             try clear c59b0
             try clear c59b1
             try clear c60
             try clear c60b0
             try clear c60b1
             try clear c61
             try clear c61b0
             try clear c61b1
             try clear c62
             try clear c62b0
             try clear c62b1
             try clear c62b2
             try clear c63
             try clear c63b0
             try clear c63b1
             try clear c63b2
             try clear p64
             try clear c70
             try clear hx36_0
             try clear hx36_1
             try clear hx36_2
             try clear hx40_2
             try clear hx414_0
             try clear hx414_1
             try clear hx414_2
             try clear hx415_0
             try clear hx415_1
             try clear hx416_0
             try clear hx416_1
             try clear hx417_0
             try clear hx417_1
             try clear hx417_2
             try clear hx419_0
             try clear hx420_0
             try clear p2
             try clear p3
             try clear p36
             try clear p4
             try clear p41
             try clear p414
             try clear p415
             try clear p416
             try clear p417
             try clear p419
             try clear p42
             try clear p420
             try clear p6
             try clear p64
             try clear q3
             try clear q36
             try clear q4
             try clear q41
             try clear q414
             try clear q415
             try clear q416
             try clear q417
             try clear q419
             try clear q42
             try clear q420
             obtain ⟨x11_4, x169_4, rfl, rfl, HA, HK4, HO_16, HO_18, HO_20, HB⟩ := hrel
             cases gk with
             | zero => exact absurd HA.out (by simp [cohousinglaw28_FlowSums.l1])
             | succ k4 =>
              have H := HA.out
              clear HA
              simp only [cohousinglaw28_FlowSums.l1] at H
              by_cases c71 : x169_4 < (l0.length : Int)
              ·rw [if_pos c71] at H
               have c71b0 : decide (x169_4 < (l0.length : Int)) = true := decide_eq_true c71
               clear c71
               by_cases c72 : x11_4 = true
               ·subst c72
                have H1 : (if 0 ≤ x169_4 then (if x169_4 < (t436.length : Int) then (if x169_4 < (t428.length : Int) then (if x169_4 < (t432.length : Int) then (if ((rd_T39 t436 x169_4).f0) ≤ (wrap64 (((rd_T39 t428 x169_4).f0) + ((rd_T39 t432 x169_4).f0))) then (cohousinglaw28_FlowSums.l1 k4 (decide ((wrap64 (((rd_T39 t428 x169_4).f1) + ((rd_T39 t432 x169_4).f1))) ≤ ((rd_T39 t436 x169_4).f1))) t428 t432 t436 (l0.length : Int) (wrap64 (x169_4 + 1))) else (cohousinglaw28_FlowSums.l1 k4 false t428 t432 t436 (l0.length : Int) (wrap64 (x169_4 + 1)))) else (none)) else (none)) else (none)) else (none)) = some r := by rw [if_pos rfl] at H; exact H
                clear H
                have H := H1
                clear H1
                by_cases c73 : 0 ≤ x169_4
                ·rw [if_pos c73] at H
                 have c73b0 : decide (0 ≤ x169_4) = true := decide_eq_true c73
                 clear c73
                 by_cases c74 : x169_4 < (t436.length : Int)
                 ·rw [if_pos c74] at H
                  have c74b0 : decide (x169_4 < (t436.length : Int)) = true := decide_eq_true c74
                  clear c74
                  by_cases c75 : x169_4 < (t428.length : Int)
                  ·rw [if_pos c75] at H
                   have c75b0 : decide (x169_4 < (t428.length : Int)) = true := decide_eq_true c75
                   clear c75
                   by_cases c76 : x169_4 < (t432.length : Int)
                   ·rw [if_pos c76] at H
                    have c76b0 : decide (x169_4 < (t432.length : Int)) = true := decide_eq_true c76
                    clear c76
                    by_cases c77 : ((rd_T39 t436 x169_4).f0) ≤ (wrap64 (((rd_T39 t428 x169_4).f0) + ((rd_T39 t432 x169_4).f0)))
                    ·rw [if_pos c77] at H
                     have c77b0 : decide (((rd_T39 t436 x169_4).f0) ≤ (wrap64 (((rd_T39 t428 x169_4).f0) + ((rd_T39 t432 x169_4).f0)))) = true := decide_eq_true c77
                     clear c77
                     have H' := Aside0.mk H
                     clear H
                     try go_wp2
                     have n0_ := Aside0.mk (Kd.R_drew HO_16.out)
                     have n1_ := Aside0.mk (Kd.R_drew HO_18.out)
                     have n2_ := Aside0.mk (Kd.R_drew HO_20.out)
                     have n3_ := Aside0.mk (below_drew1 HB.out)
                     clear HO_16
                     clear HO_18
                     clear HO_20
                     clear HB
                     have HO_16 := n0_
                     have HO_18 := n1_
                     have HO_20 := n2_
                     have HB := n3_
                     clear n0_ n1_ n2_ n3_
                     obtain ⟨Ao79, co79, eo79⟩ := Kd.R_slice HO_20.out
                     (first | subst eo79 | (injection eo79 with f1_ f2_ f3_; have f4_ := f1_.symm; have f5_ := f3_.symm; clear f1_ f2_ f3_; subst f4_; subst f5_))
                     have p440 : 0 ≤ (x169_4 : Int) := of_decide_eq_true (by first | (with_reducible assumption) | assumption)
                     have q440 : x169_4 < (t436.length : Int) := of_decide_eq_true (by first | (with_reducible assumption) | assumption)
                     obtain ⟨ad440, e440, hx440_0, hx440_1⟩ := at_T39 (Kd.R_reads' HO_20.out).2.2 x169_4 p440 q440
                     cases e440
                     replace p440 := eq_true p440
                     replace q440 := eq_true q440
                     obtain ⟨Ao80, co80, eo80⟩ := Kd.R_slice HO_16.out
                     (first | subst eo80 | (injection eo80 with f1_ f2_ f3_; have f4_ := f1_.symm; have f5_ := f3_.symm; clear f1_ f2_ f3_; subst f4_; subst f5_))
                     have p441 : 0 ≤ (x169_4 : Int) := of_decide_eq_true (by first | (with_reducible assumption) | assumption)
                     have q441 : x169_4 < (t428.length : Int) := of_decide_eq_true (by first | (with_reducible assumption) | assumption)
                     obtain ⟨ad441, e441, hx441_0, hx441_1⟩ := at_T39 (Kd.R_reads' HO_16.out).2.2 x169_4 p441 q441
                     cases e441
                     replace p441 := eq_true p441
                     replace q441 := eq_true q441
                     obtain ⟨Ao81, co81, eo81⟩ := Kd.R_slice HO_18.out
                     (first | subst eo81 | (injection eo81 with f1_ f2_ f3_; have f4_ := f1_.symm; have f5_ := f3_.symm; clear f1_ f2_ f3_; subst f4_; subst f5_))
                     have p442 : 0 ≤ (x169_4 : Int) := of_decide_eq_true (by first | (with_reducible assumption) | assumption)
                     have q442 : x169_4 < (t432.length : Int) := of_decide_eq_true (by first | (with_reducible assumption) | assumption)
                     obtain ⟨ad442, e442, hx442_0, hx442_1⟩ := at_T39 (Kd.R_reads' HO_18.out).2.2 x169_4 p442 q442
                     cases e442
                     replace p442 := eq_true p442
                     replace q442 := eq_true q442
                     have p443 : 0 ≤ (x169_4 : Int) := of_decide_eq_true (by first | (with_reducible assumption) | assumption)
                     have q443 : x169_4 < (t428.length : Int) := of_decide_eq_true (by first | (with_reducible assumption) | assumption)
                     obtain ⟨ad443, e443, hx443_0, hx443_1⟩ := at_T39 (Kd.R_reads' HO_16.out).2.2 x169_4 p443 q443
                     obtain rfl : ad441 = ad443 := (by injection e443)
                     replace p443 := eq_true p443
                     replace q443 := eq_true q443
                     have p444 : 0 ≤ (x169_4 : Int) := of_decide_eq_true (by first | (with_reducible assumption) | assumption)
                     have q444 : x169_4 < (t432.length : Int) := of_decide_eq_true (by first | (with_reducible assumption) | assumption)
                     obtain ⟨ad444, e444, hx444_0, hx444_1⟩ := at_T39 (Kd.R_reads' HO_18.out).2.2 x169_4 p444 q444
                     obtain rfl : ad442 = ad444 := (by injection e444)
                     replace p444 := eq_true p444
                     replace q444 := eq_true q444
                     have p445 : 0 ≤ (x169_4 : Int) := of_decide_eq_true (by first | (with_reducible assumption) | assumption)
                     have q445 : x169_4 < (t436.length : Int) := of_decide_eq_true (by first | (with_reducible assumption) | assumption)
                     obtain ⟨ad445, e445, hx445_0, hx445_1⟩ := at_T39 (Kd.R_reads' HO_20.out).2.2 x169_4 p445 q445
                     obtain rfl : ad440 = ad445 := (by injection e445)
                     replace p445 := eq_true p445
                     replace q445 := eq_true q445
                     refine start_ (n := 40) (S := fun w' => w'.cell? (ad440.add ((x169_4).toNat * 2)) = some (.int .i64 ((rd_T39 t436 x169_4).f0)) ∧ w'.cell? ⟨(ad440.add ((x169_4).toNat * 2)).block, (ad440.add ((x169_4).toNat * 2)).off + 1, none⟩ = some (.int .i64 ((rd_T39 t436 x169_4).f1)) ∧ w'.cell? (ad441.add ((x169_4).toNat * 2)) = some (.int .i64 ((rd_T39 t428 x169_4).f0)) ∧ w'.cell? ⟨(ad441.add ((x169_4).toNat * 2)).block, (ad441.add ((x169_4).toNat * 2)).off + 1, none⟩ = some (.int .i64 ((rd_T39 t428 x169_4).f1)) ∧ w'.cell? (ad442.add ((x169_4).toNat * 2)) = some (.int .i64 ((rd_T39 t432 x169_4).f0)) ∧ w'.cell? ⟨(ad442.add ((x169_4).toNat * 2)).block, (ad442.add ((x169_4).toNat * 2)).off + 1, none⟩ = some (.int .i64 ((rd_T39 t432 x169_4).f1)) ∧ w'.cell? (ad441.add ((x169_4).toNat * 2)) = some (.int .i64 ((rd_T39 t428 x169_4).f0)) ∧ w'.cell? ⟨(ad441.add ((x169_4).toNat * 2)).block, (ad441.add ((x169_4).toNat * 2)).off + 1, none⟩ = some (.int .i64 ((rd_T39 t428 x169_4).f1)) ∧ w'.cell? (ad442.add ((x169_4).toNat * 2)) = some (.int .i64 ((rd_T39 t432 x169_4).f0)) ∧ w'.cell? ⟨(ad442.add ((x169_4).toNat * 2)).block, (ad442.add ((x169_4).toNat * 2)).off + 1, none⟩ = some (.int .i64 ((rd_T39 t432 x169_4).f1)) ∧ w'.cell? (ad440.add ((x169_4).toNat * 2)) = some (.int .i64 ((rd_T39 t436 x169_4).f0)) ∧ w'.cell? ⟨(ad440.add ((x169_4).toNat * 2)).block, (ad440.add ((x169_4).toNat * 2)).off + 1, none⟩ = some (.int .i64 ((rd_T39 t436 x169_4).f1))) (ds := []) #[n_, n_, n_, n_, n_, n_, n_, n_, n_, n_, n_, n_, n_, n_, n_, n_, n_, n_, n_, n_, n_, n_, n_, n_, n_, n_, n_, n_, n_, n_, n_, n_, n_, n_, n_, n_, n_, n_, n_, n_] (by kernel_rfl) rfl rfl ⟨hx440_0, hx440_1, hx441_0, hx441_1, hx442_0, hx442_1, hx443_0, hx443_1, hx444_0, hx444_1, hx445_0, hx445_1⟩ (fun hHeld => ?_); refine with_tabW cohousinglaw28_FlowSums.tab25 cohousinglaw28_FlowSums.bits25 (fun HT_ HW_ => ?_)
                     generalize wr.drew = w78 at HO_16 HO_18 HO_20 HB hx440_0 hx440_1 hx441_0 hx441_1 hx442_0 hx442_1 hx443_0 hx443_1 hx444_0 hx444_1 hx445_0 hx445_1 hHeld ⊢
                     refine pure_ (i := 0) (N := some 172) (v := ?_) (a' := ?_) #[y_, n_, n_, n_, n_, n_, n_, n_, n_, n_, n_, n_, n_, n_, n_, n_, n_, n_, n_, n_, n_, n_, n_, n_, n_, n_, n_, n_, n_, n_, n_, n_, n_, n_, n_, n_, n_, n_, n_, n_] rfl rfl (any_of HT_.out (by kernel_rfl)) (fun _ _ _ h => h) (Or.inl ⟨by rfl, ?_⟩) ?_ ?_
                     rotate_left
                     ·intro w'
                      go_simp
                      with_reducible rfl
                     rotate_left
                     ·simp only [Act.put, sI_, s0_, sS_, i64_w, i32_w]
                      rfl
                     refine pure_ (i := 1) (N := some 173) (v := ?_) (a' := ?_) #[y_, y_, n_, n_, n_, n_, n_, n_, n_, n_, n_, n_, n_, n_, n_, n_, n_, n_, n_, n_, n_, n_, n_, n_, n_, n_, n_, n_, n_, n_, n_, n_, n_, n_, n_, n_, n_, n_, n_, n_] rfl rfl (any_of HT_.out (by kernel_rfl)) (fun _ _ _ h => h) (Or.inl ⟨by rfl, ?_⟩) ?_ ?_
                     rotate_left
                     ·intro w'
                      go_simp
                      with_reducible rfl
                     rotate_left
                     ·simp only [Act.put, sI_, s0_, sS_, i64_w, i32_w]
                      rfl
                     refine pure_ (i := 2) (N := some 174) (v := ?_) (a' := ?_) #[y_, y_, y_, n_, n_, n_, n_, n_, n_, n_, n_, n_, n_, n_, n_, n_, n_, n_, n_, n_, n_, n_, n_, n_, n_, n_, n_, n_, n_, n_, n_, n_, n_, n_, n_, n_, n_, n_, n_, n_] rfl rfl (any_of HT_.out (by kernel_rfl)) (fun _ _ _ h => h) (Or.inl ⟨by rfl, ?_⟩) ?_ ?_
                     rotate_left
                     ·intro w'
                      go_simp
                      with_reducible rfl
                     rotate_left
                     ·simp only [Act.put, sI_, s0_, sS_, i64_w, i32_w]
                      rfl
                     refine pure_ (i := 3) (N := some 175) (v := ?_) (a' := ?_) #[y_, y_, y_, y_, n_, n_, n_, n_, n_, n_, n_, n_, n_, n_, n_, n_, n_, n_, n_, n_, n_, n_, n_, n_, n_, n_, n_, n_, n_, n_, n_, n_, n_, n_, n_, n_, n_, n_, n_, n_] rfl rfl (any_of HT_.out (by kernel_rfl)) (fun _ _ _ h => h) (Or.inl ⟨by rfl, ?_⟩) ?_ ?_
                     rotate_left
                     ·intro w'
                      go_simp
                      with_reducible rfl
                     rotate_left
                     ·simp only [Act.put, sI_, s0_, sS_, i64_w, i32_w]
                      rfl
                     refine pure_ (i := 4) (N := some 176) (v := ?_) (a' := ?_) #[y_, y_, y_, y_, y_, n_, n_, n_, n_, n_, n_, n_, n_, n_, n_, n_, n_, n_, n_, n_, n_, n_, n_, n_, n_, n_, n_, n_, n_, n_, n_, n_, n_, n_, n_, n_, n_, n_, n_, n_] rfl rfl (any_of HT_.out (by kernel_rfl)) (fun _ _ _ h => h) (Or.inl ⟨by rfl, ?_⟩) ?_ ?_
                     rotate_left
                     ·intro w'
                      go_simp
                      with_reducible rfl
                     rotate_left
                     ·simp only [Act.put, sI_, s0_, sS_, i64_w, i32_w]
                      rfl
                     refine pure_ (i := 5) (N := some 177) (v := ?_) (a' := ?_) #[y_, y_, y_, y_, y_, y_, n_, n_, n_, n_, n_, n_, n_, n_, n_, n_, n_, n_, n_, n_, n_, n_, n_, n_, n_, n_, n_, n_, n_, n_, n_, n_, n_, n_, n_, n_, n_, n_, n_, n_] rfl rfl (any_of HT_.out (by kernel_rfl)) (fun _ _ _ h => h) (Or.inl ⟨by rfl, ?_⟩) ?_ ?_
                     rotate_left
                     ·intro w'
                      go_simp
                      with_reducible rfl
                     rotate_left
                     ·simp only [Act.put, sI_, s0_, sS_, i64_w, i32_w]
                      rfl
                     refine pure_ (i := 7) (N := some 179) (v := ?_) (a' := ?_) #[y_, y_, y_, y_, y_, y_, n_, y_, n_, n_, n_, n_, n_, n_, n_, n_, n_, n_, n_, n_, n_, n_, n_, n_, n_, n_, n_, n_, n_, n_, n_, n_, n_, n_, n_, n_, n_, n_, n_, n_] rfl rfl (any_of HT_.out (by kernel_rfl)) (fun _ _ _ h => h) (Or.inl ⟨by rfl, ?_⟩) ?_ ?_
                     rotate_left
                     ·intro w'
                      go_simp
                      with_reducible rfl
                     rotate_left
                     ·simp only [Act.put, sI_, s0_, sS_, i64_w, i32_w]
                      rfl
                     refine pure_ (i := 8) (N := some 180) (v := ?_) (a' := ?_) #[y_, y_, y_, y_, y_, y_, n_, y_, y_, n_, n_, n_, n_, n_, n_, n_, n_, n_, n_, n_, n_, n_, n_, n_, n_, n_, n_, n_, n_, n_, n_, n_, n_, n_, n_, n_, n_, n_, n_, n_] rfl rfl (any_of HT_.out (by kernel_rfl)) (fun _ _ _ h => h) (Or.inl ⟨by rfl, ?_⟩) ?_ ?_
                     rotate_left
                     ·intro w'
                      go_simp
                      with_reducible rfl
                     rotate_left
                     ·simp only [Act.put, sI_, s0_, sS_, i64_w, i32_w]
                      rfl
                     refine pure_ (i := 9) (N := some 181) (v := ?_) (a' := ?_) #[y_, y_, y_, y_, y_, y_, n_, y_, y_, y_, n_, n_, n_, n_, n_, n_, n_, n_, n_, n_, n_, n_, n_, n_, n_, n_, n_, n_, n_, n_, n_, n_, n_, n_, n_, n_, n_, n_, n_, n_] rfl rfl (any_of HT_.out (by kernel_rfl)) (fun _ _ _ h => h) (Or.inl ⟨by rfl, ?_⟩) ?_ ?_
                     rotate_left
                     ·intro w'
                      go_simp
                      with_reducible rfl
                     rotate_left
                     ·simp only [Act.put, sI_, s0_, sS_, i64_w, i32_w]
                      rfl
                     refine pure_ (i := 10) (N := some 182) (v := ?_) (a' := ?_) #[y_, y_, y_, y_, y_, y_, n_, y_, y_, y_, y_, n_, n_, n_, n_, n_, n_, n_, n_, n_, n_, n_, n_, n_, n_, n_, n_, n_, n_, n_, n_, n_, n_, n_, n_, n_, n_, n_, n_, n_] rfl rfl (any_of HT_.out (by kernel_rfl)) (fun _ _ _ h => h) (Or.inl ⟨by rfl, ?_⟩) ?_ ?_
                     rotate_left
                     ·intro w'
                      go_simp
                      with_reducible rfl
                     rotate_left
                     ·simp only [Act.put, sI_, s0_, sS_, i64_w, i32_w]
                      rfl
                     refine pure_ (i := 12) (N := some 184) (v := ?_) (a' := ?_) #[y_, y_, y_, y_, y_, y_, n_, y_, y_, y_, y_, n_, y_, n_, n_, n_, n_, n_, n_, n_, n_, n_, n_, n_, n_, n_, n_, n_, n_, n_, n_, n_, n_, n_, n_, n_, n_, n_, n_, n_] rfl rfl (any_of HT_.out (by kernel_rfl)) (fun _ _ _ h => h) (Or.inl ⟨by rfl, ?_⟩) ?_ ?_
                     rotate_left
                     ·intro w'
                      go_simp
                      with_reducible rfl
                     rotate_left
                     ·simp only [Act.put, sI_, s0_, sS_, i64_w, i32_w]
                      rfl
                     refine pure_ (i := 13) (N := some 185) (v := ?_) (a' := ?_) #[y_, y_, y_, y_, y_, y_, n_, y_, y_, y_, y_, n_, y_, y_, n_, n_, n_, n_, n_, n_, n_, n_, n_, n_, n_, n_, n_, n_, n_, n_, n_, n_, n_, n_, n_, n_, n_, n_, n_, n_] rfl rfl (any_of HT_.out (by kernel_rfl)) (fun _ _ _ h => h) (Or.inl ⟨by rfl, ?_⟩) ?_ ?_
                     rotate_left
                     ·intro w'
                      go_simp
                      with_reducible rfl
                     rotate_left
                     ·simp only [Act.put, sI_, s0_, sS_, i64_w, i32_w]
                      rfl
                     refine pure_ (i := 14) (N := some 186) (v := ?_) (a' := ?_) #[y_, y_, y_, y_, y_, y_, n_, y_, y_, y_, y_, n_, y_, y_, y_, n_, n_, n_, n_, n_, n_, n_, n_, n_, n_, n_, n_, n_, n_, n_, n_, n_, n_, n_, n_, n_, n_, n_, n_, n_] rfl rfl (any_of HT_.out (by kernel_rfl)) (fun _ _ _ h => h) (Or.inl ⟨by rfl, ?_⟩) ?_ ?_
                     rotate_left
                     ·intro w'
                      go_simp
                      with_reducible rfl
                     rotate_left
                     ·simp only [Act.put, sI_, s0_, sS_, i64_w, i32_w]
                      rfl
                     refine pure_ (i := 15) (N := some 187) (v := ?_) (a' := ?_) #[y_, y_, y_, y_, y_, y_, n_, y_, y_, y_, y_, n_, y_, y_, y_, y_, n_, n_, n_, n_, n_, n_, n_, n_, n_, n_, n_, n_, n_, n_, n_, n_, n_, n_, n_, n_, n_, n_, n_, n_] rfl rfl (any_of HT_.out (by kernel_rfl)) (fun _ _ _ h => h) (Or.inl ⟨by rfl, ?_⟩) ?_ ?_
                     rotate_left
                     ·intro w'
                      go_simp
                      with_reducible rfl
                     rotate_left
                     ·simp only [Act.put, sI_, s0_, sS_, i64_w, i32_w]
                      rfl
                     refine take_ (i := 6) (N := some 178) (v := ?_) (a' := ?_) #[y_, y_, y_, y_, y_, y_, y_, y_, y_, y_, y_, n_, y_, y_, y_, y_, n_, n_, n_, n_, n_, n_, n_, n_, n_, n_, n_, n_, n_, n_, n_, n_, n_, n_, n_, n_, n_, n_, n_, n_] rfl rfl (take_ofW HT_.out HW_.out (by kernel_rfl)) (fun _ _ _ h => h) (Or.inl ⟨by rfl, ?_⟩) hHeld ?_ ?_
                     rotate_left
                     ·rintro w' ⟨s0, s1, s2, s3, s4, s5, s6, s7, s8, s9, s10, s11⟩
                      go_simp
                      with_reducible rfl
                     rotate_left
                     ·simp only [Act.put, sI_, s0_, sS_, i64_w, i32_w]
                      rfl
                     refine take_ (i := 11) (N := some 183) (v := ?_) (a' := ?_) #[y_, y_, y_, y_, y_, y_, y_, y_, y_, y_, y_, y_, y_, y_, y_, y_, n_, n_, n_, n_, n_, n_, n_, n_, n_, n_, n_, n_, n_, n_, n_, n_, n_, n_, n_, n_, n_, n_, n_, n_] rfl rfl (take_ofW HT_.out HW_.out (by kernel_rfl)) (fun _ _ _ h => h) (Or.inl ⟨by rfl, ?_⟩) hHeld ?_ ?_
                     rotate_left
                     ·rintro w' ⟨s0, s1, s2, s3, s4, s5, s6, s7, s8, s9, s10, s11⟩
                      go_simp
                      with_reducible rfl
                     rotate_left
                     ·simp only [Act.put, sI_, s0_, sS_, i64_w, i32_w]
                      rfl
                     refine take_ (i := 16) (N := some 188) (v := ?_) (a' := ?_) #[y_, y_, y_, y_, y_, y_, y_, y_, y_, y_, y_, y_, y_, y_, y_, y_, y_, n_, n_, n_, n_, n_, n_, n_, n_, n_, n_, n_, n_, n_, n_, n_, n_, n_, n_, n_, n_, n_, n_, n_] rfl rfl (take_ofW HT_.out HW_.out (by kernel_rfl)) (fun _ _ _ h => h) (Or.inl ⟨by rfl, ?_⟩) hHeld ?_ ?_
                     rotate_left
                     ·rintro w' ⟨s0, s1, s2, s3, s4, s5, s6, s7, s8, s9, s10, s11⟩
                      go_simp
                      with_reducible rfl
                     rotate_left
                     ·simp only [Act.put, sI_, s0_, sS_, i64_w, i32_w]
                      rfl
                     refine pure_ (i := 17) (N := some 189) (v := ?_) (a' := ?_) #[y_, y_, y_, y_, y_, y_, y_, y_, y_, y_, y_, y_, y_, y_, y_, y_, y_, y_, n_, n_, n_, n_, n_, n_, n_, n_, n_, n_, n_, n_, n_, n_, n_, n_, n_, n_, n_, n_, n_, n_] rfl rfl (any_of HT_.out (by kernel_rfl)) (fun _ _ _ h => h) (Or.inl ⟨by rfl, ?_⟩) ?_ ?_
                     rotate_left
                     ·intro w'
                      go_simp
                      with_reducible rfl
                     rotate_left
                     ·simp only [Act.put, sI_, s0_, sS_, i64_w, i32_w]
                      rfl
                     refine pure_ (i := 18) (N := some 190) (v := ?_) (a' := ?_) #[y_, y_, y_, y_, y_, y_, y_, y_, y_, y_, y_, y_, y_, y_, y_, y_, y_, y_, y_, n_, n_, n_, n_, n_, n_, n_, n_, n_, n_, n_, n_, n_, n_, n_, n_, n_, n_, n_, n_, n_] rfl rfl (any_of HT_.out (by kernel_rfl)) (fun _ _ _ h => h) (Or.inl ⟨by rfl, ?_⟩) ?_ ?_
                     rotate_left
                     ·intro w'
                      go_simp
                      with_reducible rfl
                     rotate_left
                     ·simp only [Act.put, sI_, s0_, sS_, i64_w, i32_w]
                      rfl
                     refine pure_ (i := 19) (N := some 191) (v := ?_) (a' := ?_) #[y_, y_, y_, y_, y_, y_, y_, y_, y_, y_, y_, y_, y_, y_, y_, y_, y_, y_, y_, y_, n_, n_, n_, n_, n_, n_, n_, n_, n_, n_, n_, n_, n_, n_, n_, n_, n_, n_, n_, n_] rfl rfl (any_of HT_.out (by kernel_rfl)) (fun _ _ _ h => h) (Or.inl ⟨by rfl, ?_⟩) ?_ ?_
                     rotate_left
                     ·intro w'
                      go_simp
                      with_reducible rfl
                     rotate_left
                     ·simp only [Act.put, sI_, s0_, sS_, i64_w, i32_w]
                      rfl
                     refine pure_ (i := 20) (N := some 192) (v := ?_) (a' := ?_) #[y_, y_, y_, y_, y_, y_, y_, y_, y_, y_, y_, y_, y_, y_, y_, y_, y_, y_, y_, y_, y_, n_, n_, n_, n_, n_, n_, n_, n_, n_, n_, n_, n_, n_, n_, n_, n_, n_, n_, n_] rfl rfl (any_of HT_.out (by kernel_rfl)) (fun _ _ _ h => h) (Or.inl ⟨by rfl, ?_⟩) ?_ ?_
                     rotate_left
                     ·intro w'
                      go_simp
                      with_reducible rfl
                     rotate_left
                     ·simp only [Act.put, sI_, s0_, sS_, i64_w, i32_w]
                      rfl
                     refine pure_ (i := 21) (N := some 193) (v := ?_) (a' := ?_) #[y_, y_, y_, y_, y_, y_, y_, y_, y_, y_, y_, y_, y_, y_, y_, y_, y_, y_, y_, y_, y_, y_, n_, n_, n_, n_, n_, n_, n_, n_, n_, n_, n_, n_, n_, n_, n_, n_, n_, n_] rfl rfl (any_of HT_.out (by kernel_rfl)) (fun _ _ _ h => h) (Or.inl ⟨by rfl, ?_⟩) ?_ ?_
                     rotate_left
                     ·intro w'
                      go_simp
                      with_reducible rfl
                     rotate_left
                     ·simp only [Act.put, sI_, s0_, sS_, i64_w, i32_w]
                      rfl
                     refine pure_ (i := 22) (N := some 194) (v := ?_) (a' := ?_) #[y_, y_, y_, y_, y_, y_, y_, y_, y_, y_, y_, y_, y_, y_, y_, y_, y_, y_, y_, y_, y_, y_, y_, n_, n_, n_, n_, n_, n_, n_, n_, n_, n_, n_, n_, n_, n_, n_, n_, n_] rfl rfl (any_of HT_.out (by kernel_rfl)) (fun _ _ _ h => h) (Or.inl ⟨by rfl, ?_⟩) ?_ ?_
                     rotate_left
                     ·intro w'
                      go_simp
                      with_reducible rfl
                     rotate_left
                     ·simp only [Act.put, sI_, s0_, sS_, i64_w, i32_w]
                      rfl
                     refine pure_ (i := 23) (N := some 195) (v := ?_) (a' := ?_) #[y_, y_, y_, y_, y_, y_, y_, y_, y_, y_, y_, y_, y_, y_, y_, y_, y_, y_, y_, y_, y_, y_, y_, y_, n_, n_, n_, n_, n_, n_, n_, n_, n_, n_, n_, n_, n_, n_, n_, n_] rfl rfl (any_of HT_.out (by kernel_rfl)) (fun _ _ _ h => h) (Or.inl ⟨by rfl, ?_⟩) ?_ ?_
                     rotate_left
                     ·intro w'
                      go_simp
                      with_reducible rfl
                     rotate_left
                     ·simp only [Act.put, sI_, s0_, sS_, i64_w, i32_w]
                      rfl
                     refine pure_ (i := 24) (N := some 196) (v := ?_) (a' := ?_) #[y_, y_, y_, y_, y_, y_, y_, y_, y_, y_, y_, y_, y_, y_, y_, y_, y_, y_, y_, y_, y_, y_, y_, y_, y_, n_, n_, n_, n_, n_, n_, n_, n_, n_, n_, n_, n_, n_, n_, n_] rfl rfl (any_of HT_.out (by kernel_rfl)) (fun _ _ _ h => h) (Or.inl ⟨by rfl, ?_⟩) ?_ ?_
                     rotate_left
                     ·intro w'
                      go_simp
                      with_reducible rfl
                     rotate_left
                     ·simp only [Act.put, sI_, s0_, sS_, i64_w, i32_w]
                      rfl
                     refine pure_ (i := 26) (N := some 198) (v := ?_) (a' := ?_) #[y_, y_, y_, y_, y_, y_, y_, y_, y_, y_, y_, y_, y_, y_, y_, y_, y_, y_, y_, y_, y_, y_, y_, y_, y_, n_, y_, n_, n_, n_, n_, n_, n_, n_, n_, n_, n_, n_, n_, n_] rfl rfl (any_of HT_.out (by kernel_rfl)) (fun _ _ _ h => h) (Or.inl ⟨by rfl, ?_⟩) ?_ ?_
                     rotate_left
                     ·intro w'
                      go_simp
                      with_reducible rfl
                     rotate_left
                     ·simp only [Act.put, sI_, s0_, sS_, i64_w, i32_w]
                      rfl
                     refine pure_ (i := 27) (N := some 199) (v := ?_) (a' := ?_) #[y_, y_, y_, y_, y_, y_, y_, y_, y_, y_, y_, y_, y_, y_, y_, y_, y_, y_, y_, y_, y_, y_, y_, y_, y_, n_, y_, y_, n_, n_, n_, n_, n_, n_, n_, n_, n_, n_, n_, n_] rfl rfl (any_of HT_.out (by kernel_rfl)) (fun _ _ _ h => h) (Or.inl ⟨by rfl, ?_⟩) ?_ ?_
                     rotate_left
                     ·intro w'
                      go_simp
                      with_reducible rfl
                     rotate_left
                     ·simp only [Act.put, sI_, s0_, sS_, i64_w, i32_w]
                      rfl
                     refine pure_ (i := 28) (N := some 200) (v := ?_) (a' := ?_) #[y_, y_, y_, y_, y_, y_, y_, y_, y_, y_, y_, y_, y_, y_, y_, y_, y_, y_, y_, y_, y_, y_, y_, y_, y_, n_, y_, y_, y_, n_, n_, n_, n_, n_, n_, n_, n_, n_, n_, n_] rfl rfl (any_of HT_.out (by kernel_rfl)) (fun _ _ _ h => h) (Or.inl ⟨by rfl, ?_⟩) ?_ ?_
                     rotate_left
                     ·intro w'
                      go_simp
                      with_reducible rfl
                     rotate_left
                     ·simp only [Act.put, sI_, s0_, sS_, i64_w, i32_w]
                      rfl
                     refine pure_ (i := 29) (N := some 201) (v := ?_) (a' := ?_) #[y_, y_, y_, y_, y_, y_, y_, y_, y_, y_, y_, y_, y_, y_, y_, y_, y_, y_, y_, y_, y_, y_, y_, y_, y_, n_, y_, y_, y_, y_, n_, n_, n_, n_, n_, n_, n_, n_, n_, n_] rfl rfl (any_of HT_.out (by kernel_rfl)) (fun _ _ _ h => h) (Or.inl ⟨by rfl, ?_⟩) ?_ ?_
                     rotate_left
                     ·intro w'
                      go_simp
                      with_reducible rfl
                     rotate_left
                     ·simp only [Act.put, sI_, s0_, sS_, i64_w, i32_w]
                      rfl
                     refine pure_ (i := 32) (N := some 204) (v := ?_) (a' := ?_) #[y_, y_, y_, y_, y_, y_, y_, y_, y_, y_, y_, y_, y_, y_, y_, y_, y_, y_, y_, y_, y_, y_, y_, y_, y_, n_, y_, y_, y_, y_, n_, n_, y_, n_, n_, n_, n_, n_, n_, n_] rfl rfl (any_of HT_.out (by kernel_rfl)) (fun _ _ _ h => h) (Or.inl ⟨by rfl, ?_⟩) ?_ ?_
                     rotate_left
                     ·intro w'
                      go_simp
                      with_reducible rfl
                     rotate_left
                     ·simp only [Act.put, sI_, s0_, sS_, i64_w, i32_w]
                      rfl
                     refine pure_ (i := 33) (N := some 205) (v := ?_) (a' := ?_) #[y_, y_, y_, y_, y_, y_, y_, y_, y_, y_, y_, y_, y_, y_, y_, y_, y_, y_, y_, y_, y_, y_, y_, y_, y_, n_, y_, y_, y_, y_, n_, n_, y_, y_, n_, n_, n_, n_, n_, n_] rfl rfl (any_of HT_.out (by kernel_rfl)) (fun _ _ _ h => h) (Or.inl ⟨by rfl, ?_⟩) ?_ ?_
                     rotate_left
                     ·intro w'
                      go_simp
                      with_reducible rfl
                     rotate_left
                     ·simp only [Act.put, sI_, s0_, sS_, i64_w, i32_w]
                      rfl
                     refine pure_ (i := 34) (N := some 206) (v := ?_) (a' := ?_) #[y_, y_, y_, y_, y_, y_, y_, y_, y_, y_, y_, y_, y_, y_, y_, y_, y_, y_, y_, y_, y_, y_, y_, y_, y_, n_, y_, y_, y_, y_, n_, n_, y_, y_, y_, n_, n_, n_, n_, n_] rfl rfl (any_of HT_.out (by kernel_rfl)) (fun _ _ _ h => h) (Or.inl ⟨by rfl, ?_⟩) ?_ ?_
                     rotate_left
                     ·intro w'
                      go_simp
                      with_reducible rfl
                     rotate_left
                     ·simp only [Act.put, sI_, s0_, sS_, i64_w, i32_w]
                      rfl
                     refine pure_ (i := 35) (N := some 207) (v := ?_) (a' := ?_) #[y_, y_, y_, y_, y_, y_, y_, y_, y_, y_, y_, y_, y_, y_, y_, y_, y_, y_, y_, y_, y_, y_, y_, y_, y_, n_, y_, y_, y_, y_, n_, n_, y_, y_, y_, y_, n_, n_, n_, n_] rfl rfl (any_of HT_.out (by kernel_rfl)) (fun _ _ _ h => h) (Or.inl ⟨by rfl, ?_⟩) ?_ ?_
                     rotate_left
                     ·intro w'
                      go_simp
                      with_reducible rfl
                     rotate_left
                     ·simp only [Act.put, sI_, s0_, sS_, i64_w, i32_w]
                      rfl
                     refine take_ (i := 25) (N := some 197) (v := ?_) (a' := ?_) #[y_, y_, y_, y_, y_, y_, y_, y_, y_, y_, y_, y_, y_, y_, y_, y_, y_, y_, y_, y_, y_, y_, y_, y_, y_, y_, y_, y_, y_, y_, n_, n_, y_, y_, y_, y_, n_, n_, n_, n_] rfl rfl (take_ofW HT_.out HW_.out (by kernel_rfl)) (fun _ _ _ h => h) (Or.inl ⟨by rfl, ?_⟩) hHeld ?_ ?_
                     rotate_left
                     ·rintro w' ⟨s0, s1, s2, s3, s4, s5, s6, s7, s8, s9, s10, s11⟩
                      go_simp
                      with_reducible rfl
                     rotate_left
                     ·simp only [Act.put, sI_, s0_, sS_, i64_w, i32_w]
                      rfl
                     refine take_ (i := 30) (N := some 202) (v := ?_) (a' := ?_) #[y_, y_, y_, y_, y_, y_, y_, y_, y_, y_, y_, y_, y_, y_, y_, y_, y_, y_, y_, y_, y_, y_, y_, y_, y_, y_, y_, y_, y_, y_, y_, n_, y_, y_, y_, y_, n_, n_, n_, n_] rfl rfl (take_ofW HT_.out HW_.out (by kernel_rfl)) (fun _ _ _ h => h) (Or.inl ⟨by rfl, ?_⟩) hHeld ?_ ?_
                     rotate_left
                     ·rintro w' ⟨s0, s1, s2, s3, s4, s5, s6, s7, s8, s9, s10, s11⟩
                      go_simp
                      with_reducible rfl
                     rotate_left
                     ·simp only [Act.put, sI_, s0_, sS_, i64_w, i32_w]
                      rfl
                     refine pure_ (i := 31) (N := some 203) (v := ?_) (a' := ?_) #[y_, y_, y_, y_, y_, y_, y_, y_, y_, y_, y_, y_, y_, y_, y_, y_, y_, y_, y_, y_, y_, y_, y_, y_, y_, y_, y_, y_, y_, y_, y_, y_, y_, y_, y_, y_, n_, n_, n_, n_] rfl rfl (any_of HT_.out (by kernel_rfl)) (fun _ _ _ h => h) (Or.inl ⟨by rfl, ?_⟩) ?_ ?_
                     rotate_left
                     ·intro w'
                      go_simp
                      with_reducible rfl
                     rotate_left
                     ·simp only [Act.put, sI_, s0_, sS_, i64_w, i32_w]
                      rfl
                     refine take_ (i := 36) (N := some 208) (v := ?_) (a' := ?_) #[y_, y_, y_, y_, y_, y_, y_, y_, y_, y_, y_, y_, y_, y_, y_, y_, y_, y_, y_, y_, y_, y_, y_, y_, y_, y_, y_, y_, y_, y_, y_, y_, y_, y_, y_, y_, y_, n_, n_, n_] rfl rfl (take_ofW HT_.out HW_.out (by kernel_rfl)) (fun _ _ _ h => h) (Or.inl ⟨by rfl, ?_⟩) hHeld ?_ ?_
                     rotate_left
                     ·rintro w' ⟨s0, s1, s2, s3, s4, s5, s6, s7, s8, s9, s10, s11⟩
                      go_simp
                      with_reducible rfl
                     rotate_left
                     ·simp only [Act.put, sI_, s0_, sS_, i64_w, i32_w]
                      rfl
                     refine pure_ (i := 37) (N := some 209) (v := ?_) (a' := ?_) #[y_, y_, y_, y_, y_, y_, y_, y_, y_, y_, y_, y_, y_, y_, y_, y_, y_, y_, y_, y_, y_, y_, y_, y_, y_, y_, y_, y_, y_, y_, y_, y_, y_, y_, y_, y_, y_, y_, n_, n_] rfl rfl (any_of HT_.out (by kernel_rfl)) (fun _ _ _ h => h) (Or.inl ⟨by rfl, ?_⟩) ?_ ?_
                     rotate_left
                     ·intro w'
                      go_simp
                      with_reducible rfl
                     rotate_left
                     ·simp only [Act.put, sI_, s0_, sS_, i64_w, i32_w]
                      rfl
                     refine pure_ (i := 38) (N := some 210) (v := ?_) (a' := ?_) #[y_, y_, y_, y_, y_, y_, y_, y_, y_, y_, y_, y_, y_, y_, y_, y_, y_, y_, y_, y_, y_, y_, y_, y_, y_, y_, y_, y_, y_, y_, y_, y_, y_, y_, y_, y_, y_, y_, y_, n_] rfl rfl (any_of HT_.out (by kernel_rfl)) (fun _ _ _ h => h) (Or.inl ⟨by rfl, ?_⟩) ?_ ?_
                     rotate_left
                     ·intro w'
                      go_simp
                      with_reducible rfl
                     rotate_left
                     ·simp only [Act.put, sI_, s0_, sS_, i64_w, i32_w]
                      rfl
                     refine pure_ (i := 39) (N := some 11) (v := ?_) (a' := ?_) #[y_, y_, y_, y_, y_, y_, y_, y_, y_, y_, y_, y_, y_, y_, y_, y_, y_, y_, y_, y_, y_, y_, y_, y_, y_, y_, y_, y_, y_, y_, y_, y_, y_, y_, y_, y_, y_, y_, y_, y_] rfl rfl (any_of HT_.out (by kernel_rfl)) (fun _ _ _ h => h) (Or.inl ⟨by rfl, ?_⟩) ?_ ?_
                     rotate_left
                     ·intro w'
                      go_simp
                      with_reducible rfl
                     rotate_left
                     ·simp only [Act.put, sI_, s0_, sS_, i64_w, i32_w]
                      rfl
                     refine done_ (done_of HT_.out (by kernel_rfl)) ?_
                     try go_wp2
                     go_roundg k4
                     case measure => have := HJ6.out; have := HK2.out; have := HJ49.out; have := HK4.out; omega
                     case rel => exact ⟨(decide ((wrap64 (((rd_T39 t428 x169_4).f1) + ((rd_T39 t432 x169_4).f1))) ≤ ((rd_T39 t436 x169_4).f1))), (wrap64 (x169_4 + 1)), (by first | rfl | (simp; done) | (simp [*]; done)), (by first | rfl | (simp; done) | (simp [*]; done)), H', ⟨by have := HJ6.out; have := HK2.out; have := HJ49.out; have := HK4.out; omega⟩, ⟨by (with_reducible repeat (first | apply Kd.R_alloc | apply Kd.R_drewN | apply Kd.R_drew)); exact HO_16.out⟩, ⟨by (with_reducible repeat (first | apply Kd.R_alloc | apply Kd.R_drewN | apply Kd.R_drew)); exact HO_18.out⟩, ⟨by (with_reducible repeat (first | apply Kd.R_alloc | apply Kd.R_drewN | apply Kd.R_drew)); exact HO_20.out⟩, ⟨by repeat (first | (with_reducible first | exact HB.out | apply below_alloc | apply pw_below_drewN | apply below_drew1) | exact HB.out)⟩⟩
                    ·rw [if_neg c77] at H
                     have c77b0 : decide (((rd_T39 t436 x169_4).f0) ≤ (wrap64 (((rd_T39 t428 x169_4).f0) + ((rd_T39 t432 x169_4).f0)))) = false := decide_eq_false c77
                     clear c77
                     have H' := Aside0.mk H
                     clear H
                     try go_wp2
                     have n0_ := Aside0.mk (Kd.R_drew HO_16.out)
                     have n1_ := Aside0.mk (Kd.R_drew HO_18.out)
                     have n2_ := Aside0.mk (Kd.R_drew HO_20.out)
                     have n3_ := Aside0.mk (below_drew1 HB.out)
                     clear HO_16
                     clear HO_18
                     clear HO_20
                     clear HB
                     have HO_16 := n0_
                     have HO_18 := n1_
                     have HO_20 := n2_
                     have HB := n3_
                     clear n0_ n1_ n2_ n3_
                     obtain ⟨Ao83, co83, eo83⟩ := Kd.R_slice HO_20.out
                     (first | subst eo83 | (injection eo83 with f1_ f2_ f3_; have f4_ := f1_.symm; have f5_ := f3_.symm; clear f1_ f2_ f3_; subst f4_; subst f5_))
                     have p440 : 0 ≤ (x169_4 : Int) := of_decide_eq_true (by first | (with_reducible assumption) | assumption)
                     have q440 : x169_4 < (t436.length : Int) := of_decide_eq_true (by first | (with_reducible assumption) | assumption)
                     obtain ⟨ad440, e440, hx440_0, hx440_1⟩ := at_T39 (Kd.R_reads' HO_20.out).2.2 x169_4 p440 q440
                     cases e440
                     replace p440 := eq_true p440
                     replace q440 := eq_true q440
                     obtain ⟨Ao84, co84, eo84⟩ := Kd.R_slice HO_16.out
                     (first | subst eo84 | (injection eo84 with f1_ f2_ f3_; have f4_ := f1_.symm; have f5_ := f3_.symm; clear f1_ f2_ f3_; subst f4_; subst f5_))
                     have p441 : 0 ≤ (x169_4 : Int) := of_decide_eq_true (by first | (with_reducible assumption) | assumption)
                     have q441 : x169_4 < (t428.length : Int) := of_decide_eq_true (by first | (with_reducible assumption) | assumption)
                     obtain ⟨ad441, e441, hx441_0, hx441_1⟩ := at_T39 (Kd.R_reads' HO_16.out).2.2 x169_4 p441 q441
                     cases e441
                     replace p441 := eq_true p441
                     replace q441 := eq_true q441
                     obtain ⟨Ao85, co85, eo85⟩ := Kd.R_slice HO_18.out
                     (first | subst eo85 | (injection eo85 with f1_ f2_ f3_; have f4_ := f1_.symm; have f5_ := f3_.symm; clear f1_ f2_ f3_; subst f4_; subst f5_))
                     have p442 : 0 ≤ (x169_4 : Int) := of_decide_eq_true (by first | (with_reducible assumption) | assumption)
                     have q442 : x169_4 < (t432.length : Int) := of_decide_eq_true (by first | (with_reducible assumption) | assumption)
                     obtain ⟨ad442, e442, hx442_0, hx442_1⟩ := at_T39 (Kd.R_reads' HO_18.out).2.2 x169_4 p442 q442
                     cases e442
                     replace p442 := eq_true p442
                     replace q442 := eq_true q442
                     refine start_ (n := 40) (S := fun w' => w'.cell? (ad440.add ((x169_4).toNat * 2)) = some (.int .i64 ((rd_T39 t436 x169_4).f0)) ∧ w'.cell? ⟨(ad440.add ((x169_4).toNat * 2)).block, (ad440.add ((x169_4).toNat * 2)).off + 1, none⟩ = some (.int .i64 ((rd_T39 t436 x169_4).f1)) ∧ w'.cell? (ad441.add ((x169_4).toNat * 2)) = some (.int .i64 ((rd_T39 t428 x169_4).f0)) ∧ w'.cell? ⟨(ad441.add ((x169_4).toNat * 2)).block, (ad441.add ((x169_4).toNat * 2)).off + 1, none⟩ = some (.int .i64 ((rd_T39 t428 x169_4).f1)) ∧ w'.cell? (ad442.add ((x169_4).toNat * 2)) = some (.int .i64 ((rd_T39 t432 x169_4).f0)) ∧ w'.cell? ⟨(ad442.add ((x169_4).toNat * 2)).block, (ad442.add ((x169_4).toNat * 2)).off + 1, none⟩ = some (.int .i64 ((rd_T39 t432 x169_4).f1))) (ds := []) #[n_, n_, n_, n_, n_, n_, n_, n_, n_, n_, n_, n_, n_, n_, n_, n_, n_, n_, n_, n_, n_, n_, n_, n_, n_, n_, n_, n_, n_, n_, n_, n_, n_, n_, n_, n_, n_, n_, n_, n_] (by kernel_rfl) rfl rfl ⟨hx440_0, hx440_1, hx441_0, hx441_1, hx442_0, hx442_1⟩ (fun hHeld => ?_); refine with_tabW cohousinglaw28_FlowSums.tab25 cohousinglaw28_FlowSums.bits25 (fun HT_ HW_ => ?_)
                     generalize wr.drew = w82 at HO_16 HO_18 HO_20 HB hx440_0 hx440_1 hx441_0 hx441_1 hx442_0 hx442_1 hHeld ⊢
                     refine pure_ (i := 0) (N := some 172) (v := ?_) (a' := ?_) #[y_, n_, n_, n_, n_, n_, n_, n_, n_, n_, n_, n_, n_, n_, n_, n_, n_, n_, n_, n_, n_, n_, n_, n_, n_, n_, n_, n_, n_, n_, n_, n_, n_, n_, n_, n_, n_, n_, n_, n_] rfl rfl (any_of HT_.out (by kernel_rfl)) (fun _ _ _ h => h) (Or.inl ⟨by rfl, ?_⟩) ?_ ?_
                     rotate_left
                     ·intro w'
                      go_simp
                      with_reducible rfl
                     rotate_left
                     ·simp only [Act.put, sI_, s0_, sS_, i64_w, i32_w]
                      rfl
                     refine pure_ (i := 1) (N := some 173) (v := ?_) (a' := ?_) #[y_, y_, n_, n_, n_, n_, n_, n_, n_, n_, n_, n_, n_, n_, n_, n_, n_, n_, n_, n_, n_, n_, n_, n_, n_, n_, n_, n_, n_, n_, n_, n_, n_, n_, n_, n_, n_, n_, n_, n_] rfl rfl (any_of HT_.out (by kernel_rfl)) (fun _ _ _ h => h) (Or.inl ⟨by rfl, ?_⟩) ?_ ?_
                     rotate_left
                     ·intro w'
                      go_simp
                      with_reducible rfl
                     rotate_left
                     ·simp only [Act.put, sI_, s0_, sS_, i64_w, i32_w]
                      rfl
                     refine pure_ (i := 2) (N := some 174) (v := ?_) (a' := ?_) #[y_, y_, y_, n_, n_, n_, n_, n_, n_, n_, n_, n_, n_, n_, n_, n_, n_, n_, n_, n_, n_, n_, n_, n_, n_, n_, n_, n_, n_, n_, n_, n_, n_, n_, n_, n_, n_, n_, n_, n_] rfl rfl (any_of HT_.out (by kernel_rfl)) (fun _ _ _ h => h) (Or.inl ⟨by rfl, ?_⟩) ?_ ?_
                     rotate_left
                     ·intro w'
                      go_simp
                      with_reducible rfl
                     rotate_left
                     ·simp only [Act.put, sI_, s0_, sS_, i64_w, i32_w]
                      rfl
                     refine pure_ (i := 3) (N := some 175) (v := ?_) (a' := ?_) #[y_, y_, y_, y_, n_, n_, n_, n_, n_, n_, n_, n_, n_, n_, n_, n_, n_, n_, n_, n_, n_, n_, n_, n_, n_, n_, n_, n_, n_, n_, n_, n_, n_, n_, n_, n_, n_, n_, n_, n_] rfl rfl (any_of HT_.out (by kernel_rfl)) (fun _ _ _ h => h) (Or.inl ⟨by rfl, ?_⟩) ?_ ?_
                     rotate_left
                     ·intro w'
                      go_simp
                      with_reducible rfl
                     rotate_left
                     ·simp only [Act.put, sI_, s0_, sS_, i64_w, i32_w]
                      rfl
                     refine pure_ (i := 4) (N := some 176) (v := ?_) (a' := ?_) #[y_, y_, y_, y_, y_, n_, n_, n_, n_, n_, n_, n_, n_, n_, n_, n_, n_, n_, n_, n_, n_, n_, n_, n_, n_, n_, n_, n_, n_, n_, n_, n_, n_, n_, n_, n_, n_, n_, n_, n_] rfl rfl (any_of HT_.out (by kernel_rfl)) (fun _ _ _ h => h) (Or.inl ⟨by rfl, ?_⟩) ?_ ?_
                     rotate_left
                     ·intro w'
                      go_simp
                      with_reducible rfl
                     rotate_left
                     ·simp only [Act.put, sI_, s0_, sS_, i64_w, i32_w]
                      rfl
                     refine pure_ (i := 5) (N := some 177) (v := ?_) (a' := ?_) #[y_, y_, y_, y_, y_, y_, n_, n_, n_, n_, n_, n_, n_, n_, n_, n_, n_, n_, n_, n_, n_, n_, n_, n_, n_, n_, n_, n_, n_, n_, n_, n_, n_, n_, n_, n_, n_, n_, n_, n_] rfl rfl (any_of HT_.out (by kernel_rfl)) (fun _ _ _ h => h) (Or.inl ⟨by rfl, ?_⟩) ?_ ?_
                     rotate_left
                     ·intro w'
                      go_simp
                      with_reducible rfl
                     rotate_left
                     ·simp only [Act.put, sI_, s0_, sS_, i64_w, i32_w]
                      rfl
                     refine pure_ (i := 7) (N := some 179) (v := ?_) (a' := ?_) #[y_, y_, y_, y_, y_, y_, n_, y_, n_, n_, n_, n_, n_, n_, n_, n_, n_, n_, n_, n_, n_, n_, n_, n_, n_, n_, n_, n_, n_, n_, n_, n_, n_, n_, n_, n_, n_, n_, n_, n_] rfl rfl (any_of HT_.out (by kernel_rfl)) (fun _ _ _ h => h) (Or.inl ⟨by rfl, ?_⟩) ?_ ?_
                     rotate_left
                     ·intro w'
                      go_simp
                      with_reducible rfl
                     rotate_left
                     ·simp only [Act.put, sI_, s0_, sS_, i64_w, i32_w]
                      rfl
                     refine pure_ (i := 8) (N := some 180) (v := ?_) (a' := ?_) #[y_, y_, y_, y_, y_, y_, n_, y_, y_, n_, n_, n_, n_, n_, n_, n_, n_, n_, n_, n_, n_, n_, n_, n_, n_, n_, n_, n_, n_, n_, n_, n_, n_, n_, n_, n_, n_, n_, n_, n_] rfl rfl (any_of HT_.out (by kernel_rfl)) (fun _ _ _ h => h) (Or.inl ⟨by rfl, ?_⟩) ?_ ?_
                     rotate_left
                     ·intro w'
                      go_simp
                      with_reducible rfl
                     rotate_left
                     ·simp only [Act.put, sI_, s0_, sS_, i64_w, i32_w]
                      rfl
                     refine pure_ (i := 9) (N := some 181) (v := ?_) (a' := ?_) #[y_, y_, y_, y_, y_, y_, n_, y_, y_, y_, n_, n_, n_, n_, n_, n_, n_, n_, n_, n_, n_, n_, n_, n_, n_, n_, n_, n_, n_, n_, n_, n_, n_, n_, n_, n_, n_, n_, n_, n_] rfl rfl (any_of HT_.out (by kernel_rfl)) (fun _ _ _ h => h) (Or.inl ⟨by rfl, ?_⟩) ?_ ?_
                     rotate_left
                     ·intro w'
                      go_simp
                      with_reducible rfl
                     rotate_left
                     ·simp only [Act.put, sI_, s0_, sS_, i64_w, i32_w]
                      rfl
                     refine pure_ (i := 10) (N := some 182) (v := ?_) (a' := ?_) #[y_, y_, y_, y_, y_, y_, n_, y_, y_, y_, y_, n_, n_, n_, n_, n_, n_, n_, n_, n_, n_, n_, n_, n_, n_, n_, n_, n_, n_, n_, n_, n_, n_, n_, n_, n_, n_, n_, n_, n_] rfl rfl (any_of HT_.out (by kernel_rfl)) (fun _ _ _ h => h) (Or.inl ⟨by rfl, ?_⟩) ?_ ?_
                     rotate_left
                     ·intro w'
                      go_simp
                      with_reducible rfl
                     rotate_left
                     ·simp only [Act.put, sI_, s0_, sS_, i64_w, i32_w]
                      rfl
                     refine pure_ (i := 12) (N := some 184) (v := ?_) (a' := ?_) #[y_, y_, y_, y_, y_, y_, n_, y_, y_, y_, y_, n_, y_, n_, n_, n_, n_, n_, n_, n_, n_, n_, n_, n_, n_, n_, n_, n_, n_, n_, n_, n_, n_, n_, n_, n_, n_, n_, n_, n_] rfl rfl (any_of HT_.out (by kernel_rfl)) (fun _ _ _ h => h) (Or.inl ⟨by rfl, ?_⟩) ?_ ?_
                     rotate_left
                     ·intro w'
                      go_simp
                      with_reducible rfl
                     rotate_left
                     ·simp only [Act.put, sI_, s0_, sS_, i64_w, i32_w]
                      rfl
                     refine pure_ (i := 13) (N := some 185) (v := ?_) (a' := ?_) #[y_, y_, y_, y_, y_, y_, n_, y_, y_, y_, y_, n_, y_, y_, n_, n_, n_, n_, n_, n_, n_, n_, n_, n_, n_, n_, n_, n_, n_, n_, n_, n_, n_, n_, n_, n_, n_, n_, n_, n_] rfl rfl (any_of HT_.out (by kernel_rfl)) (fun _ _ _ h => h) (Or.inl ⟨by rfl, ?_⟩) ?_ ?_
                     rotate_left
                     ·intro w'
                      go_simp
                      with_reducible rfl
                     rotate_left
                     ·simp only [Act.put, sI_, s0_, sS_, i64_w, i32_w]
                      rfl
                     refine pure_ (i := 14) (N := some 186) (v := ?_) (a' := ?_) #[y_, y_, y_, y_, y_, y_, n_, y_, y_, y_, y_, n_, y_, y_, y_, n_, n_, n_, n_, n_, n_, n_, n_, n_, n_, n_, n_, n_, n_, n_, n_, n_, n_, n_, n_, n_, n_, n_, n_, n_] rfl rfl (any_of HT_.out (by kernel_rfl)) (fun _ _ _ h => h) (Or.inl ⟨by rfl, ?_⟩) ?_ ?_
                     rotate_left
                     ·intro w'
                      go_simp
                      with_reducible rfl
                     rotate_left
                     ·simp only [Act.put, sI_, s0_, sS_, i64_w, i32_w]
                      rfl
                     refine pure_ (i := 15) (N := some 187) (v := ?_) (a' := ?_) #[y_, y_, y_, y_, y_, y_, n_, y_, y_, y_, y_, n_, y_, y_, y_, y_, n_, n_, n_, n_, n_, n_, n_, n_, n_, n_, n_, n_, n_, n_, n_, n_, n_, n_, n_, n_, n_, n_, n_, n_] rfl rfl (any_of HT_.out (by kernel_rfl)) (fun _ _ _ h => h) (Or.inl ⟨by rfl, ?_⟩) ?_ ?_
                     rotate_left
                     ·intro w'
                      go_simp
                      with_reducible rfl
                     rotate_left
                     ·simp only [Act.put, sI_, s0_, sS_, i64_w, i32_w]
                      rfl
                     refine take_ (i := 6) (N := some 178) (v := ?_) (a' := ?_) #[y_, y_, y_, y_, y_, y_, y_, y_, y_, y_, y_, n_, y_, y_, y_, y_, n_, n_, n_, n_, n_, n_, n_, n_, n_, n_, n_, n_, n_, n_, n_, n_, n_, n_, n_, n_, n_, n_, n_, n_] rfl rfl (take_ofW HT_.out HW_.out (by kernel_rfl)) (fun _ _ _ h => h) (Or.inl ⟨by rfl, ?_⟩) hHeld ?_ ?_
                     rotate_left
                     ·rintro w' ⟨s0, s1, s2, s3, s4, s5⟩
                      go_simp
                      with_reducible rfl
                     rotate_left
                     ·simp only [Act.put, sI_, s0_, sS_, i64_w, i32_w]
                      rfl
                     refine take_ (i := 11) (N := some 183) (v := ?_) (a' := ?_) #[y_, y_, y_, y_, y_, y_, y_, y_, y_, y_, y_, y_, y_, y_, y_, y_, n_, n_, n_, n_, n_, n_, n_, n_, n_, n_, n_, n_, n_, n_, n_, n_, n_, n_, n_, n_, n_, n_, n_, n_] rfl rfl (take_ofW HT_.out HW_.out (by kernel_rfl)) (fun _ _ _ h => h) (Or.inl ⟨by rfl, ?_⟩) hHeld ?_ ?_
                     rotate_left
                     ·rintro w' ⟨s0, s1, s2, s3, s4, s5⟩
                      go_simp
                      with_reducible rfl
                     rotate_left
                     ·simp only [Act.put, sI_, s0_, sS_, i64_w, i32_w]
                      rfl
                     refine take_ (i := 16) (N := some 188) (v := ?_) (a' := ?_) #[y_, y_, y_, y_, y_, y_, y_, y_, y_, y_, y_, y_, y_, y_, y_, y_, y_, n_, n_, n_, n_, n_, n_, n_, n_, n_, n_, n_, n_, n_, n_, n_, n_, n_, n_, n_, n_, n_, n_, n_] rfl rfl (take_ofW HT_.out HW_.out (by kernel_rfl)) (fun _ _ _ h => h) (Or.inl ⟨by rfl, ?_⟩) hHeld ?_ ?_
                     rotate_left
                     ·rintro w' ⟨s0, s1, s2, s3, s4, s5⟩
                      go_simp
                      with_reducible rfl
                     rotate_left
                     ·simp only [Act.put, sI_, s0_, sS_, i64_w, i32_w]
                      rfl
                     refine pure_ (i := 17) (N := some 189) (v := ?_) (a' := ?_) #[y_, y_, y_, y_, y_, y_, y_, y_, y_, y_, y_, y_, y_, y_, y_, y_, y_, y_, n_, n_, n_, n_, n_, n_, n_, n_, n_, n_, n_, n_, n_, n_, n_, n_, n_, n_, n_, n_, n_, n_] rfl rfl (any_of HT_.out (by kernel_rfl)) (fun _ _ _ h => h) (Or.inl ⟨by rfl, ?_⟩) ?_ ?_
                     rotate_left
                     ·intro w'
                      go_simp
                      with_reducible rfl
                     rotate_left
                     ·simp only [Act.put, sI_, s0_, sS_, i64_w, i32_w]
                      rfl
                     refine pure_ (i := 18) (N := some 190) (v := ?_) (a' := ?_) #[y_, y_, y_, y_, y_, y_, y_, y_, y_, y_, y_, y_, y_, y_, y_, y_, y_, y_, y_, n_, n_, n_, n_, n_, n_, n_, n_, n_, n_, n_, n_, n_, n_, n_, n_, n_, n_, n_, n_, n_] rfl rfl (any_of HT_.out (by kernel_rfl)) (fun _ _ _ h => h) (Or.inl ⟨by rfl, ?_⟩) ?_ ?_
                     rotate_left
                     ·intro w'
                      go_simp
                      with_reducible rfl
                     rotate_left
                     ·simp only [Act.put, sI_, s0_, sS_, i64_w, i32_w]
                      rfl
                     refine pure_ (i := 19) (N := some 191) (v := ?_) (a' := ?_) #[y_, y_, y_, y_, y_, y_, y_, y_, y_, y_, y_, y_, y_, y_, y_, y_, y_, y_, y_, y_, n_, n_, n_, n_, n_, n_, n_, n_, n_, n_, n_, n_, n_, n_, n_, n_, n_, n_, n_, n_] rfl rfl (any_of HT_.out (by kernel_rfl)) (fun _ _ _ h => h) (Or.inl ⟨by rfl, ?_⟩) ?_ ?_
                     rotate_left
                     ·intro w'
                      go_simp
                      with_reducible rfl
                     rotate_left
                     ·simp only [Act.put, sI_, s0_, sS_, i64_w, i32_w]
                      rfl
                     refine pure_ (i := 20) (N := some 192) (v := ?_) (a' := ?_) #[y_, y_, y_, y_, y_, y_, y_, y_, y_, y_, y_, y_, y_, y_, y_, y_, y_, y_, y_, y_, y_, n_, n_, n_, n_, n_, n_, n_, n_, n_, n_, n_, n_, n_, n_, n_, n_, n_, n_, n_] rfl rfl (any_of HT_.out (by kernel_rfl)) (fun _ _ _ h => h) (Or.inl ⟨by rfl, ?_⟩) ?_ ?_
                     rotate_left
                     ·intro w'
                      go_simp
                      with_reducible rfl
                     rotate_left
                     ·simp only [Act.put, sI_, s0_, sS_, i64_w, i32_w]
                      rfl
                     refine pure_ (i := 21) (N := some 193) (v := undef) (a' := ?_) #[y_, y_, y_, y_, y_, y_, y_, y_, y_, y_, y_, y_, y_, y_, y_, y_, y_, y_, y_, y_, y_, y_, n_, n_, n_, n_, n_, n_, n_, n_, n_, n_, n_, n_, n_, n_, n_, n_, n_, n_] rfl rfl (any_of HT_.out (by kernel_rfl)) (fun _ _ _ h => h) (Or.inr ⟨by rfl, rfl⟩) ?_ ?_
                     rotate_left
                     ·simp only [Act.put, sI_, s0_, sS_, i64_w, i32_w]
                      rfl
                     refine pure_ (i := 22) (N := some 194) (v := undef) (a' := ?_) #[y_, y_, y_, y_, y_, y_, y_, y_, y_, y_, y_, y_, y_, y_, y_, y_, y_, y_, y_, y_, y_, y_, y_, n_, n_, n_, n_, n_, n_, n_, n_, n_, n_, n_, n_, n_, n_, n_, n_, n_] rfl rfl (any_of HT_.out (by kernel_rfl)) (fun _ _ _ h => h) (Or.inr ⟨by rfl, rfl⟩) ?_ ?_
                     rotate_left
                     ·simp only [Act.put, sI_, s0_, sS_, i64_w, i32_w]
                      rfl
                     refine pure_ (i := 23) (N := some 195) (v := undef) (a' := ?_) #[y_, y_, y_, y_, y_, y_, y_, y_, y_, y_, y_, y_, y_, y_, y_, y_, y_, y_, y_, y_, y_, y_, y_, y_, n_, n_, n_, n_, n_, n_, n_, n_, n_, n_, n_, n_, n_, n_, n_, n_] rfl rfl (any_of HT_.out (by kernel_rfl)) (fun _ _ _ h => h) (Or.inr ⟨by rfl, rfl⟩) ?_ ?_
                     rotate_left
                     ·simp only [Act.put, sI_, s0_, sS_, i64_w, i32_w]
                      rfl
                     refine pure_ (i := 24) (N := some 196) (v := undef) (a' := ?_) #[y_, y_, y_, y_, y_, y_, y_, y_, y_, y_, y_, y_, y_, y_, y_, y_, y_, y_, y_, y_, y_, y_, y_, y_, y_, n_, n_, n_, n_, n_, n_, n_, n_, n_, n_, n_, n_, n_, n_, n_] rfl rfl (any_of HT_.out (by kernel_rfl)) (fun _ _ _ h => h) (Or.inr ⟨by rfl, rfl⟩) ?_ ?_
                     rotate_left
                     ·simp only [Act.put, sI_, s0_, sS_, i64_w, i32_w]
                      rfl
                     refine pure_ (i := 25) (N := some 197) (v := undef) (a' := ?_) #[y_, y_, y_, y_, y_, y_, y_, y_, y_, y_, y_, y_, y_, y_, y_, y_, y_, y_, y_, y_, y_, y_, y_, y_, y_, y_, n_, n_, n_, n_, n_, n_, n_, n_, n_, n_, n_, n_, n_, n_] rfl rfl (any_of HT_.out (by kernel_rfl)) (fun _ _ _ h => h) (Or.inr ⟨by rfl, rfl⟩) ?_ ?_
                     rotate_left
                     ·simp only [Act.put, sI_, s0_, sS_, i64_w, i32_w]
                      rfl
                     refine pure_ (i := 26) (N := some 198) (v := undef) (a' := ?_) #[y_, y_, y_, y_, y_, y_, y_, y_, y_, y_, y_, y_, y_, y_, y_, y_, y_, y_, y_, y_, y_, y_, y_, y_, y_, y_, y_, n_, n_, n_, n_, n_, n_, n_, n_, n_, n_, n_, n_, n_] rfl rfl (any_of HT_.out (by kernel_rfl)) (fun _ _ _ h => h) (Or.inr ⟨by rfl, rfl⟩) ?_ ?_
                     rotate_left
                     ·simp only [Act.put, sI_, s0_, sS_, i64_w, i32_w]
                      rfl
                     refine pure_ (i := 27) (N := some 199) (v := undef) (a' := ?_) #[y_, y_, y_, y_, y_, y_, y_, y_, y_, y_, y_, y_, y_, y_, y_, y_, y_, y_, y_, y_, y_, y_, y_, y_, y_, y_, y_, y_, n_, n_, n_, n_, n_, n_, n_, n_, n_, n_, n_, n_] rfl rfl (any_of HT_.out (by kernel_rfl)) (fun _ _ _ h => h) (Or.inr ⟨by rfl, rfl⟩) ?_ ?_
                     rotate_left
                     ·simp only [Act.put, sI_, s0_, sS_, i64_w, i32_w]
                      rfl
                     refine pure_ (i := 28) (N := some 200) (v := undef) (a' := ?_) #[y_, y_, y_, y_, y_, y_, y_, y_, y_, y_, y_, y_, y_, y_, y_, y_, y_, y_, y_, y_, y_, y_, y_, y_, y_, y_, y_, y_, y_, n_, n_, n_, n_, n_, n_, n_, n_, n_, n_, n_] rfl rfl (any_of HT_.out (by kernel_rfl)) (fun _ _ _ h => h) (Or.inr ⟨by rfl, rfl⟩) ?_ ?_
                     rotate_left
                     ·simp only [Act.put, sI_, s0_, sS_, i64_w, i32_w]
                      rfl
                     refine pure_ (i := 29) (N := some 201) (v := undef) (a' := ?_) #[y_, y_, y_, y_, y_, y_, y_, y_, y_, y_, y_, y_, y_, y_, y_, y_, y_, y_, y_, y_, y_, y_, y_, y_, y_, y_, y_, y_, y_, y_, n_, n_, n_, n_, n_, n_, n_, n_, n_, n_] rfl rfl (any_of HT_.out (by kernel_rfl)) (fun _ _ _ h => h) (Or.inr ⟨by rfl, rfl⟩) ?_ ?_
                     rotate_left
                     ·simp only [Act.put, sI_, s0_, sS_, i64_w, i32_w]
                      rfl
                     refine pure_ (i := 30) (N := some 202) (v := undef) (a' := ?_) #[y_, y_, y_, y_, y_, y_, y_, y_, y_, y_, y_, y_, y_, y_, y_, y_, y_, y_, y_, y_, y_, y_, y_, y_, y_, y_, y_, y_, y_, y_, y_, n_, n_, n_, n_, n_, n_, n_, n_, n_] rfl rfl (any_of HT_.out (by kernel_rfl)) (fun _ _ _ h => h) (Or.inr ⟨by rfl, rfl⟩) ?_ ?_
                     rotate_left
                     ·simp only [Act.put, sI_, s0_, sS_, i64_w, i32_w]
                      rfl
                     refine pure_ (i := 31) (N := some 203) (v := undef) (a' := ?_) #[y_, y_, y_, y_, y_, y_, y_, y_, y_, y_, y_, y_, y_, y_, y_, y_, y_, y_, y_, y_, y_, y_, y_, y_, y_, y_, y_, y_, y_, y_, y_, y_, n_, n_, n_, n_, n_, n_, n_, n_] rfl rfl (any_of HT_.out (by kernel_rfl)) (fun _ _ _ h => h) (Or.inr ⟨by rfl, rfl⟩) ?_ ?_
                     rotate_left
                     ·simp only [Act.put, sI_, s0_, sS_, i64_w, i32_w]
                      rfl
                     refine pure_ (i := 32) (N := some 204) (v := undef) (a' := ?_) #[y_, y_, y_, y_, y_, y_, y_, y_, y_, y_, y_, y_, y_, y_, y_, y_, y_, y_, y_, y_, y_, y_, y_, y_, y_, y_, y_, y_, y_, y_, y_, y_, y_, n_, n_, n_, n_, n_, n_, n_] rfl rfl (any_of HT_.out (by kernel_rfl)) (fun _ _ _ h => h) (Or.inr ⟨by rfl, rfl⟩) ?_ ?_
                     rotate_left
                     ·simp only [Act.put, sI_, s0_, sS_, i64_w, i32_w]
                      rfl
                     refine pure_ (i := 33) (N := some 205) (v := undef) (a' := ?_) #[y_, y_, y_, y_, y_, y_, y_, y_, y_, y_, y_, y_, y_, y_, y_, y_, y_, y_, y_, y_, y_, y_, y_, y_, y_, y_, y_, y_, y_, y_, y_, y_, y_, y_, n_, n_, n_, n_, n_, n_] rfl rfl (any_of HT_.out (by kernel_rfl)) (fun _ _ _ h => h) (Or.inr ⟨by rfl, rfl⟩) ?_ ?_
                     rotate_left
                     ·simp only [Act.put, sI_, s0_, sS_, i64_w, i32_w]
                      rfl
                     refine pure_ (i := 34) (N := some 206) (v := undef) (a' := ?_) #[y_, y_, y_, y_, y_, y_, y_, y_, y_, y_, y_, y_, y_, y_, y_, y_, y_, y_, y_, y_, y_, y_, y_, y_, y_, y_, y_, y_, y_, y_, y_, y_, y_, y_, y_, n_, n_, n_, n_, n_] rfl rfl (any_of HT_.out (by kernel_rfl)) (fun _ _ _ h => h) (Or.inr ⟨by rfl, rfl⟩) ?_ ?_
                     rotate_left
                     ·simp only [Act.put, sI_, s0_, sS_, i64_w, i32_w]
                      rfl
                     refine pure_ (i := 35) (N := some 207) (v := undef) (a' := ?_) #[y_, y_, y_, y_, y_, y_, y_, y_, y_, y_, y_, y_, y_, y_, y_, y_, y_, y_, y_, y_, y_, y_, y_, y_, y_, y_, y_, y_, y_, y_, y_, y_, y_, y_, y_, y_, n_, n_, n_, n_] rfl rfl (any_of HT_.out (by kernel_rfl)) (fun _ _ _ h => h) (Or.inr ⟨by rfl, rfl⟩) ?_ ?_
                     rotate_left
                     ·simp only [Act.put, sI_, s0_, sS_, i64_w, i32_w]
                      rfl
                     refine pure_ (i := 36) (N := some 208) (v := undef) (a' := ?_) #[y_, y_, y_, y_, y_, y_, y_, y_, y_, y_, y_, y_, y_, y_, y_, y_, y_, y_, y_, y_, y_, y_, y_, y_, y_, y_, y_, y_, y_, y_, y_, y_, y_, y_, y_, y_, y_, n_, n_, n_] rfl rfl (any_of HT_.out (by kernel_rfl)) (fun _ _ _ h => h) (Or.inr ⟨by rfl, rfl⟩) ?_ ?_
                     rotate_left
                     ·simp only [Act.put, sI_, s0_, sS_, i64_w, i32_w]
                      rfl
                     refine pure_ (i := 37) (N := some 209) (v := undef) (a' := ?_) #[y_, y_, y_, y_, y_, y_, y_, y_, y_, y_, y_, y_, y_, y_, y_, y_, y_, y_, y_, y_, y_, y_, y_, y_, y_, y_, y_, y_, y_, y_, y_, y_, y_, y_, y_, y_, y_, y_, n_, n_] rfl rfl (any_of HT_.out (by kernel_rfl)) (fun _ _ _ h => h) (Or.inr ⟨by rfl, rfl⟩) ?_ ?_
                     rotate_left
                     ·simp only [Act.put, sI_, s0_, sS_, i64_w, i32_w]
                      rfl
                     refine pure_ (i := 38) (N := some 210) (v := ?_) (a' := ?_) #[y_, y_, y_, y_, y_, y_, y_, y_, y_, y_, y_, y_, y_, y_, y_, y_, y_, y_, y_, y_, y_, y_, y_, y_, y_, y_, y_, y_, y_, y_, y_, y_, y_, y_, y_, y_, y_, y_, y_, n_] rfl rfl (any_of HT_.out (by kernel_rfl)) (fun _ _ _ h => h) (Or.inl ⟨by rfl, ?_⟩) ?_ ?_
                     rotate_left
                     ·intro w'
                      go_simp
                      with_reducible rfl
                     rotate_left
                     ·simp only [Act.put, sI_, s0_, sS_, i64_w, i32_w]
                      rfl
                     refine pure_ (i := 39) (N := some 11) (v := ?_) (a' := ?_) #[y_, y_, y_, y_, y_, y_, y_, y_, y_, y_, y_, y_, y_, y_, y_, y_, y_, y_, y_, y_, y_, y_, y_, y_, y_, y_, y_, y_, y_, y_, y_, y_, y_, y_, y_, y_, y_, y_, y_, y_] rfl rfl (any_of HT_.out (by kernel_rfl)) (fun _ _ _ h => h) (Or.inl ⟨by rfl, ?_⟩) ?_ ?_
                     rotate_left
                     ·intro w'
                      go_simp
                      with_reducible rfl
                     rotate_left
                     ·simp only [Act.put, sI_, s0_, sS_, i64_w, i32_w]
                      rfl
                     refine done_ (done_of HT_.out (by kernel_rfl)) ?_
                     try go_wp2
                     go_roundg k4
                     case measure => have := HJ6.out; have := HK2.out; have := HJ49.out; have := HK4.out; omega
                     case rel => exact ⟨(false), (wrap64 (x169_4 + 1)), (by first | rfl | (simp; done) | (simp [*]; done)), (by first | rfl | (simp; done) | (simp [*]; done)), H', ⟨by have := HJ6.out; have := HK2.out; have := HJ49.out; have := HK4.out; omega⟩, ⟨by (with_reducible repeat (first | apply Kd.R_alloc | apply Kd.R_drewN | apply Kd.R_drew)); exact HO_16.out⟩, ⟨by (with_reducible repeat (first | apply Kd.R_alloc | apply Kd.R_drewN | apply Kd.R_drew)); exact HO_18.out⟩, ⟨by (with_reducible repeat (first | apply Kd.R_alloc | apply Kd.R_drewN | apply Kd.R_drew)); exact HO_20.out⟩, ⟨by repeat (first | (with_reducible first | exact HB.out | apply below_alloc | apply pw_below_drewN | apply below_drew1) | exact HB.out)⟩⟩
                   ·rw [if_neg c76] at H
                    exact absurd H (by simp)
                  ·rw [if_neg c75] at H
                   exact absurd H (by simp)
                 ·rw [if_neg c74] at H
                  exact absurd H (by simp)
                ·rw [if_neg c73] at H
                 exact absurd H (by simp)
               ·replace c72 := Bool.eq_false_iff.mpr c72
                subst c72
                have H1 : (cohousinglaw28_FlowSums.l1 k4 false t428 t432 t436 (l0.length : Int) (wrap64 (x169_4 + 1))) = some r := by rw [if_neg (show ¬ (false = true) by decide)] at H; exact H
                clear H
                have H := H1
                clear H1
                have H' := Aside0.mk H
                clear H
                try go_wp2
                have n0_ := Aside0.mk (Kd.R_drew HO_16.out)
                have n1_ := Aside0.mk (Kd.R_drew HO_18.out)
                have n2_ := Aside0.mk (Kd.R_drew HO_20.out)
                have n3_ := Aside0.mk (below_drew1 HB.out)
                clear HO_16
                clear HO_18
                clear HO_20
                clear HB
                have HO_16 := n0_
                have HO_18 := n1_
                have HO_20 := n2_
                have HB := n3_
                clear n0_ n1_ n2_ n3_
                refine start_ (n := 40) (S := fun w' => True) (ds := []) #[n_, n_, n_, n_, n_, n_, n_, n_, n_, n_, n_, n_, n_, n_, n_, n_, n_, n_, n_, n_, n_, n_, n_, n_, n_, n_, n_, n_, n_, n_, n_, n_, n_, n_, n_, n_, n_, n_, n_, n_] (by kernel_rfl) rfl rfl trivial (fun hHeld => ?_); refine with_tabW cohousinglaw28_FlowSums.tab25 cohousinglaw28_FlowSums.bits25 (fun HT_ HW_ => ?_)
                generalize wr.drew = w86 at HO_16 HO_18 HO_20 HB hHeld ⊢
                refine pure_ (i := 0) (N := some 172) (v := ?_) (a' := ?_) #[y_, n_, n_, n_, n_, n_, n_, n_, n_, n_, n_, n_, n_, n_, n_, n_, n_, n_, n_, n_, n_, n_, n_, n_, n_, n_, n_, n_, n_, n_, n_, n_, n_, n_, n_, n_, n_, n_, n_, n_] rfl rfl (any_of HT_.out (by kernel_rfl)) (fun _ _ _ h => h) (Or.inl ⟨by rfl, ?_⟩) ?_ ?_
                rotate_left
                ·intro w'
                 go_simp
                 with_reducible rfl
                rotate_left
                ·simp only [Act.put, sI_, s0_, sS_, i64_w, i32_w]
                 rfl
                refine pure_ (i := 1) (N := some 173) (v := ?_) (a' := ?_) #[y_, y_, n_, n_, n_, n_, n_, n_, n_, n_, n_, n_, n_, n_, n_, n_, n_, n_, n_, n_, n_, n_, n_, n_, n_, n_, n_, n_, n_, n_, n_, n_, n_, n_, n_, n_, n_, n_, n_, n_] rfl rfl (any_of HT_.out (by kernel_rfl)) (fun _ _ _ h => h) (Or.inl ⟨by rfl, ?_⟩) ?_ ?_
                rotate_left
                ·intro w'
                 go_simp
                 with_reducible rfl
                rotate_left
                ·simp only [Act.put, sI_, s0_, sS_, i64_w, i32_w]
                 rfl
                refine pure_ (i := 2) (N := some 174) (v := undef) (a' := ?_) #[y_, y_, y_, n_, n_, n_, n_, n_, n_, n_, n_, n_, n_, n_, n_, n_, n_, n_, n_, n_, n_, n_, n_, n_, n_, n_, n_, n_, n_, n_, n_, n_, n_, n_, n_, n_, n_, n_, n_, n_] rfl rfl (any_of HT_.out (by kernel_rfl)) (fun _ _ _ h => h) (Or.inr ⟨by rfl, rfl⟩) ?_ ?_
                rotate_left
                ·simp only [Act.put, sI_, s0_, sS_, i64_w, i32_w]
                 rfl
                refine pure_ (i := 3) (N := some 175) (v := undef) (a' := ?_) #[y_, y_, y_, y_, n_, n_, n_, n_, n_, n_, n_, n_, n_, n_, n_, n_, n_, n_, n_, n_, n_, n_, n_, n_, n_, n_, n_, n_, n_, n_, n_, n_, n_, n_, n_, n_, n_, n_, n_, n_] rfl rfl (any_of HT_.out (by kernel_rfl)) (fun _ _ _ h => h) (Or.inr ⟨by rfl, rfl⟩) ?_ ?_
                rotate_left
                ·simp only [Act.put, sI_, s0_, sS_, i64_w, i32_w]
                 rfl
                refine pure_ (i := 4) (N := some 176) (v := undef) (a' := ?_) #[y_, y_, y_, y_, y_, n_, n_, n_, n_, n_, n_, n_, n_, n_, n_, n_, n_, n_, n_, n_, n_, n_, n_, n_, n_, n_, n_, n_, n_, n_, n_, n_, n_, n_, n_, n_, n_, n_, n_, n_] rfl rfl (any_of HT_.out (by kernel_rfl)) (fun _ _ _ h => h) (Or.inr ⟨by rfl, rfl⟩) ?_ ?_
                rotate_left
                ·simp only [Act.put, sI_, s0_, sS_, i64_w, i32_w]
                 rfl
                refine pure_ (i := 5) (N := some 177) (v := undef) (a' := ?_) #[y_, y_, y_, y_, y_, y_, n_, n_, n_, n_, n_, n_, n_, n_, n_, n_, n_, n_, n_, n_, n_, n_, n_, n_, n_, n_, n_, n_, n_, n_, n_, n_, n_, n_, n_, n_, n_, n_, n_, n_] rfl rfl (any_of HT_.out (by kernel_rfl)) (fun _ _ _ h => h) (Or.inr ⟨by rfl, rfl⟩) ?_ ?_
                rotate_left
                ·simp only [Act.put, sI_, s0_, sS_, i64_w, i32_w]
                 rfl
                refine pure_ (i := 6) (N := some 178) (v := undef) (a' := ?_) #[y_, y_, y_, y_, y_, y_, y_, n_, n_, n_, n_, n_, n_, n_, n_, n_, n_, n_, n_, n_, n_, n_, n_, n_, n_, n_, n_, n_, n_, n_, n_, n_, n_, n_, n_, n_, n_, n_, n_, n_] rfl rfl (any_of HT_.out (by kernel_rfl)) (fun _ _ _ h => h) (Or.inr ⟨by rfl, rfl⟩) ?_ ?_
                rotate_left
                ·simp only [Act.put, sI_, s0_, sS_, i64_w, i32_w]
                 rfl
                refine pure_ (i := 7) (N := some 179) (v := undef) (a' := ?_) #[y_, y_, y_, y_, y_, y_, y_, y_, n_, n_, n_, n_, n_, n_, n_, n_, n_, n_, n_, n_, n_, n_, n_, n_, n_, n_, n_, n_, n_, n_, n_, n_, n_, n_, n_, n_, n_, n_, n_, n_] rfl rfl (any_of HT_.out (by kernel_rfl)) (fun _ _ _ h => h) (Or.inr ⟨by rfl, rfl⟩) ?_ ?_
                rotate_left
                ·simp only [Act.put, sI_, s0_, sS_, i64_w, i32_w]
                 rfl
                refine pure_ (i := 8) (N := some 180) (v := undef) (a' := ?_) #[y_, y_, y_, y_, y_, y_, y_, y_, y_, n_, n_, n_, n_, n_, n_, n_, n_, n_, n_, n_, n_, n_, n_, n_, n_, n_, n_, n_, n_, n_, n_, n_, n_, n_, n_, n_, n_, n_, n_, n_] rfl rfl (any_of HT_.out (by kernel_rfl)) (fun _ _ _ h => h) (Or.inr ⟨by rfl, rfl⟩) ?_ ?_
                rotate_left
                ·simp only [Act.put, sI_, s0_, sS_, i64_w, i32_w]
                 rfl
                refine pure_ (i := 9) (N := some 181) (v := undef) (a' := ?_) #[y_, y_, y_, y_, y_, y_, y_, y_, y_, y_, n_, n_, n_, n_, n_, n_, n_, n_, n_, n_, n_, n_, n_, n_, n_, n_, n_, n_, n_, n_, n_, n_, n_, n_, n_, n_, n_, n_, n_, n_] rfl rfl (any_of HT_.out (by kernel_rfl)) (fun _ _ _ h => h) (Or.inr ⟨by rfl, rfl⟩) ?_ ?_
                rotate_left
                ·simp only [Act.put, sI_, s0_, sS_, i64_w, i32_w]
                 rfl
                refine pure_ (i := 10) (N := some 182) (v := undef) (a' := ?_) #[y_, y_, y_, y_, y_, y_, y_, y_, y_, y_, y_, n_, n_, n_, n_, n_, n_, n_, n_, n_, n_, n_, n_, n_, n_, n_, n_, n_, n_, n_, n_, n_, n_, n_, n_, n_, n_, n_, n_, n_] rfl rfl (any_of HT_.out (by kernel_rfl)) (fun _ _ _ h => h) (Or.inr ⟨by rfl, rfl⟩) ?_ ?_
                rotate_left
                ·simp only [Act.put, sI_, s0_, sS_, i64_w, i32_w]
                 rfl
                refine pure_ (i := 11) (N := some 183) (v := undef) (a' := ?_) #[y_, y_, y_, y_, y_, y_, y_, y_, y_, y_, y_, y_, n_, n_, n_, n_, n_, n_, n_, n_, n_, n_, n_, n_, n_, n_, n_, n_, n_, n_, n_, n_, n_, n_, n_, n_, n_, n_, n_, n_] rfl rfl (any_of HT_.out (by kernel_rfl)) (fun _ _ _ h => h) (Or.inr ⟨by rfl, rfl⟩) ?_ ?_
                rotate_left
                ·simp only [Act.put, sI_, s0_, sS_, i64_w, i32_w]
                 rfl
                refine pure_ (i := 12) (N := some 184) (v := undef) (a' := ?_) #[y_, y_, y_, y_, y_, y_, y_, y_, y_, y_, y_, y_, y_, n_, n_, n_, n_, n_, n_, n_, n_, n_, n_, n_, n_, n_, n_, n_, n_, n_, n_, n_, n_, n_, n_, n_, n_, n_, n_, n_] rfl rfl (any_of HT_.out (by kernel_rfl)) (fun _ _ _ h => h) (Or.inr ⟨by rfl, rfl⟩) ?_ ?_
                rotate_left
                ·simp only [Act.put, sI_, s0_, sS_, i64_w, i32_w]
                 rfl
                refine pure_ (i := 13) (N := some 185) (v := undef) (a' := ?_) #[y_, y_, y_, y_, y_, y_, y_, y_, y_, y_, y_, y_, y_, y_, n_, n_, n_, n_, n_, n_, n_, n_, n_, n_, n_, n_, n_, n_, n_, n_, n_, n_, n_, n_, n_, n_, n_, n_, n_, n_] rfl rfl (any_of HT_.out (by kernel_rfl)) (fun _ _ _ h => h) (Or.inr ⟨by rfl, rfl⟩) ?_ ?_
                rotate_left
                ·simp only [Act.put, sI_, s0_, sS_, i64_w, i32_w]
                 rfl
                refine pure_ (i := 14) (N := some 186) (v := undef) (a' := ?_) #[y_, y_, y_, y_, y_, y_, y_, y_, y_, y_, y_, y_, y_, y_, y_, n_, n_, n_, n_, n_, n_, n_, n_, n_, n_, n_, n_, n_, n_, n_, n_, n_, n_, n_, n_, n_, n_, n_, n_, n_] rfl rfl (any_of HT_.out (by kernel_rfl)) (fun _ _ _ h => h) (Or.inr ⟨by rfl, rfl⟩) ?_ ?_
                rotate_left
                ·simp only [Act.put, sI_, s0_, sS_, i64_w, i32_w]
                 rfl
                refine pure_ (i := 15) (N := some 187) (v := undef) (a' := ?_) #[y_, y_, y_, y_, y_, y_, y_, y_, y_, y_, y_, y_, y_, y_, y_, y_, n_, n_, n_, n_, n_, n_, n_, n_, n_, n_, n_, n_, n_, n_, n_, n_, n_, n_, n_, n_, n_, n_, n_, n_] rfl rfl (any_of HT_.out (by kernel_rfl)) (fun _ _ _ h => h) (Or.inr ⟨by rfl, rfl⟩) ?_ ?_
                rotate_left
                ·simp only [Act.put, sI_, s0_, sS_, i64_w, i32_w]
                 rfl
                refine pure_ (i := 16) (N := some 188) (v := undef) (a' := ?_) #[y_, y_, y_, y_, y_, y_, y_, y_, y_, y_, y_, y_, y_, y_, y_, y_, y_, n_, n_, n_, n_, n_, n_, n_, n_, n_, n_, n_, n_, n_, n_, n_, n_, n_, n_, n_, n_, n_, n_, n_] rfl rfl (any_of HT_.out (by kernel_rfl)) (fun _ _ _ h => h) (Or.inr ⟨by rfl, rfl⟩) ?_ ?_
                rotate_left
                ·simp only [Act.put, sI_, s0_, sS_, i64_w, i32_w]
                 rfl
                refine pure_ (i := 17) (N := some 189) (v := undef) (a' := ?_) #[y_, y_, y_, y_, y_, y_, y_, y_, y_, y_, y_, y_, y_, y_, y_, y_, y_, y_, n_, n_, n_, n_, n_, n_, n_, n_, n_, n_, n_, n_, n_, n_, n_, n_, n_, n_, n_, n_, n_, n_] rfl rfl (any_of HT_.out (by kernel_rfl)) (fun _ _ _ h => h) (Or.inr ⟨by rfl, rfl⟩) ?_ ?_
                rotate_left
                ·simp only [Act.put, sI_, s0_, sS_, i64_w, i32_w]
                 rfl
                refine pure_ (i := 18) (N := some 190) (v := undef) (a' := ?_) #[y_, y_, y_, y_, y_, y_, y_, y_, y_, y_, y_, y_, y_, y_, y_, y_, y_, y_, y_, n_, n_, n_, n_, n_, n_, n_, n_, n_, n_, n_, n_, n_, n_, n_, n_, n_, n_, n_, n_, n_] rfl rfl (any_of HT_.out (by kernel_rfl)) (fun _ _ _ h => h) (Or.inr ⟨by rfl, rfl⟩) ?_ ?_
                rotate_left
                ·simp only [Act.put, sI_, s0_, sS_, i64_w, i32_w]
                 rfl
                refine pure_ (i := 19) (N := some 191) (v := ?_) (a' := ?_) #[y_, y_, y_, y_, y_, y_, y_, y_, y_, y_, y_, y_, y_, y_, y_, y_, y_, y_, y_, y_, n_, n_, n_, n_, n_, n_, n_, n_, n_, n_, n_, n_, n_, n_, n_, n_, n_, n_, n_, n_] rfl rfl (any_of HT_.out (by kernel_rfl)) (fun _ _ _ h => h) (Or.inl ⟨by rfl, ?_⟩) ?_ ?_
                rotate_left
                ·intro w'
                 go_simp
                 with_reducible rfl
                rotate_left
                ·simp only [Act.put, sI_, s0_, sS_, i64_w, i32_w]
                 rfl
                refine pure_ (i := 20) (N := some 192) (v := ?_) (a' := ?_) #[y_, y_, y_, y_, y_, y_, y_, y_, y_, y_, y_, y_, y_, y_, y_, y_, y_, y_, y_, y_, y_, n_, n_, n_, n_, n_, n_, n_, n_, n_, n_, n_, n_, n_, n_, n_, n_, n_, n_, n_] rfl rfl (any_of HT_.out (by kernel_rfl)) (fun _ _ _ h => h) (Or.inl ⟨by rfl, ?_⟩) ?_ ?_
                rotate_left
                ·intro w'
                 go_simp
                 with_reducible rfl
                rotate_left
                ·simp only [Act.put, sI_, s0_, sS_, i64_w, i32_w]
                 rfl
                refine pure_ (i := 21) (N := some 193) (v := undef) (a' := ?_) #[y_, y_, y_, y_, y_, y_, y_, y_, y_, y_, y_, y_, y_, y_, y_, y_, y_, y_, y_, y_, y_, y_, n_, n_, n_, n_, n_, n_, n_, n_, n_, n_, n_, n_, n_, n_, n_, n_, n_, n_] rfl rfl (any_of HT_.out (by kernel_rfl)) (fun _ _ _ h => h) (Or.inr ⟨by rfl, rfl⟩) ?_ ?_
                rotate_left
                ·simp only [Act.put, sI_, s0_, sS_, i64_w, i32_w]
                 rfl
                refine pure_ (i := 22) (N := some 194) (v := undef) (a' := ?_) #[y_, y_, y_, y_, y_, y_, y_, y_, y_, y_, y_, y_, y_, y_, y_, y_, y_, y_, y_, y_, y_, y_, y_, n_, n_, n_, n_, n_, n_, n_, n_, n_, n_, n_, n_, n_, n_, n_, n_, n_] rfl rfl (any_of HT_.out (by kernel_rfl)) (fun _ _ _ h => h) (Or.inr ⟨by rfl, rfl⟩) ?_ ?_
                rotate_left
                ·simp only [Act.put, sI_, s0_, sS_, i64_w, i32_w]
                 rfl
                refine pure_ (i := 23) (N := some 195) (v := undef) (a' := ?_) #[y_, y_, y_, y_, y_, y_, y_, y_, y_, y_, y_, y_, y_, y_, y_, y_, y_, y_, y_, y_, y_, y_, y_, y_, n_, n_, n_, n_, n_, n_, n_, n_, n_, n_, n_, n_, n_, n_, n_, n_] rfl rfl (any_of HT_.out (by kernel_rfl)) (fun _ _ _ h => h) (Or.inr ⟨by rfl, rfl⟩) ?_ ?_
                rotate_left
                ·simp only [Act.put, sI_, s0_, sS_, i64_w, i32_w]
                 rfl
                refine pure_ (i := 24) (N := some 196) (v := undef) (a' := ?_) #[y_, y_, y_, y_, y_, y_, y_, y_, y_, y_, y_, y_, y_, y_, y_, y_, y_, y_, y_, y_, y_, y_, y_, y_, y_, n_, n_, n_, n_, n_, n_, n_, n_, n_, n_, n_, n_, n_, n_, n_] rfl rfl (any_of HT_.out (by kernel_rfl)) (fun _ _ _ h => h) (Or.inr ⟨by rfl, rfl⟩) ?_ ?_
                rotate_left
                ·simp only [Act.put, sI_, s0_, sS_, i64_w, i32_w]
                 rfl
                refine pure_ (i := 25) (N := some 197) (v := undef) (a' := ?_) #[y_, y_, y_, y_, y_, y_, y_, y_, y_, y_, y_, y_, y_, y_, y_, y_, y_, y_, y_, y_, y_, y_, y_, y_, y_, y_, n_, n_, n_, n_, n_, n_, n_, n_, n_, n_, n_, n_, n_, n_] rfl rfl (any_of HT_.out (by kernel_rfl)) (fun _ _ _ h => h) (Or.inr ⟨by rfl, rfl⟩) ?_ ?_
                rotate_left
                ·simp only [Act.put, sI_, s0_, sS_, i64_w, i32_w]
                 rfl
                refine pure_ (i := 26) (N := some 198) (v := undef) (a' := ?_) #[y_, y_, y_, y_, y_, y_, y_, y_, y_, y_, y_, y_, y_, y_, y_, y_, y_, y_, y_, y_, y_, y_, y_, y_, y_, y_, y_, n_, n_, n_, n_, n_, n_, n_, n_, n_, n_, n_, n_, n_] rfl rfl (any_of HT_.out (by kernel_rfl)) (fun _ _ _ h => h) (Or.inr ⟨by rfl, rfl⟩) ?_ ?_
                rotate_left
                ·simp only [Act.put, sI_, s0_, sS_, i64_w, i32_w]
                 rfl
                refine pure_ (i := 27) (N := some 199) (v := undef) (a' := ?_) #[y_, y_, y_, y_, y_, y_, y_, y_, y_, y_, y_, y_, y_, y_, y_, y_, y_, y_, y_, y_, y_, y_, y_, y_, y_, y_, y_, y_, n_, n_, n_, n_, n_, n_, n_, n_, n_, n_, n_, n_] rfl rfl (any_of HT_.out (by kernel_rfl)) (fun _ _ _ h => h) (Or.inr ⟨by rfl, rfl⟩) ?_ ?_
                rotate_left
                ·simp only [Act.put, sI_, s0_, sS_, i64_w, i32_w]
                 rfl
                refine pure_ (i := 28) (N := some 200) (v := undef) (a' := ?_) #[y_, y_, y_, y_, y_, y_, y_, y_, y_, y_, y_, y_, y_, y_, y_, y_, y_, y_, y_, y_, y_, y_, y_, y_, y_, y_, y_, y_, y_, n_, n_, n_, n_, n_, n_, n_, n_, n_, n_, n_] rfl rfl (any_of HT_.out (by kernel_rfl)) (fun _ _ _ h => h) (Or.inr ⟨by rfl, rfl⟩) ?_ ?_
                rotate_left
                ·simp only [Act.put, sI_, s0_, sS_, i64_w, i32_w]
                 rfl
                refine pure_ (i := 29) (N := some 201) (v := undef) (a' := ?_) #[y_, y_, y_, y_, y_, y_, y_, y_, y_, y_, y_, y_, y_, y_, y_, y_, y_, y_, y_, y_, y_, y_, y_, y_, y_, y_, y_, y_, y_, y_, n_, n_, n_, n_, n_, n_, n_, n_, n_, n_] rfl rfl (any_of HT_.out (by kernel_rfl)) (fun _ _ _ h => h) (Or.inr ⟨by rfl, rfl⟩) ?_ ?_
                rotate_left
                ·simp only [Act.put, sI_, s0_, sS_, i64_w, i32_w]
                 rfl
                refine pure_ (i := 30) (N := some 202) (v := undef) (a' := ?_) #[y_, y_, y_, y_, y_, y_, y_, y_, y_, y_, y_, y_, y_, y_, y_, y_, y_, y_, y_, y_, y_, y_, y_, y_, y_, y_, y_, y_, y_, y_, y_, n_, n_, n_, n_, n_, n_, n_, n_, n_] rfl rfl (any_of HT_.out (by kernel_rfl)) (fun _ _ _ h => h) (Or.inr ⟨by rfl, rfl⟩) ?_ ?_
                rotate_left
                ·simp only [Act.put, sI_, s0_, sS_, i64_w, i32_w]
                 rfl
                refine pure_ (i := 31) (N := some 203) (v := undef) (a' := ?_) #[y_, y_, y_, y_, y_, y_, y_, y_, y_, y_, y_, y_, y_, y_, y_, y_, y_, y_, y_, y_, y_, y_, y_, y_, y_, y_, y_, y_, y_, y_, y_, y_, n_, n_, n_, n_, n_, n_, n_, n_] rfl rfl (any_of HT_.out (by kernel_rfl)) (fun _ _ _ h => h) (Or.inr ⟨by rfl, rfl⟩) ?_ ?_
                rotate_left
                ·simp only [Act.put, sI_, s0_, sS_, i64_w, i32_w]
                 rfl
                refine pure_ (i := 32) (N := some 204) (v := undef) (a' := ?_) #[y_, y_, y_, y_, y_, y_, y_, y_, y_, y_, y_, y_, y_, y_, y_, y_, y_, y_, y_, y_, y_, y_, y_, y_, y_, y_, y_, y_, y_, y_, y_, y_, y_, n_, n_, n_, n_, n_, n_, n_] rfl rfl (any_of HT_.out (by kernel_rfl)) (fun _ _ _ h => h) (Or.inr ⟨by rfl, rfl⟩) ?_ ?_
                rotate_left
                ·simp only [Act.put, sI_, s0_, sS_, i64_w, i32_w]
                 rfl
                refine pure_ (i := 33) (N := some 205) (v := undef) (a' := ?_) #[y_, y_, y_, y_, y_, y_, y_, y_, y_, y_, y_, y_, y_, y_, y_, y_, y_, y_, y_, y_, y_, y_, y_, y_, y_, y_, y_, y_, y_, y_, y_, y_, y_, y_, n_, n_, n_, n_, n_, n_] rfl rfl (any_of HT_.out (by kernel_rfl)) (fun _ _ _ h => h) (Or.inr ⟨by rfl, rfl⟩) ?_ ?_
                rotate_left
                ·simp only [Act.put, sI_, s0_, sS_, i64_w, i32_w]
                 rfl
                refine pure_ (i := 34) (N := some 206) (v := undef) (a' := ?_) #[y_, y_, y_, y_, y_, y_, y_, y_, y_, y_, y_, y_, y_, y_, y_, y_, y_, y_, y_, y_, y_, y_, y_, y_, y_, y_, y_, y_, y_, y_, y_, y_, y_, y_, y_, n_, n_, n_, n_, n_] rfl rfl (any_of HT_.out (by kernel_rfl)) (fun _ _ _ h => h) (Or.inr ⟨by rfl, rfl⟩) ?_ ?_
                rotate_left
                ·simp only [Act.put, sI_, s0_, sS_, i64_w, i32_w]
                 rfl
                refine pure_ (i := 35) (N := some 207) (v := undef) (a' := ?_) #[y_, y_, y_, y_, y_, y_, y_, y_, y_, y_, y_, y_, y_, y_, y_, y_, y_, y_, y_, y_, y_, y_, y_, y_, y_, y_, y_, y_, y_, y_, y_, y_, y_, y_, y_, y_, n_, n_, n_, n_] rfl rfl (any_of HT_.out (by kernel_rfl)) (fun _ _ _ h => h) (Or.inr ⟨by rfl, rfl⟩) ?_ ?_
                rotate_left
                ·simp only [Act.put, sI_, s0_, sS_, i64_w, i32_w]
                 rfl
                refine pure_ (i := 36) (N := some 208) (v := undef) (a' := ?_) #[y_, y_, y_, y_, y_, y_, y_, y_, y_, y_, y_, y_, y_, y_, y_, y_, y_, y_, y_, y_, y_, y_, y_, y_, y_, y_, y_, y_, y_, y_, y_, y_, y_, y_, y_, y_, y_, n_, n_, n_] rfl rfl (any_of HT_.out (by kernel_rfl)) (fun _ _ _ h => h) (Or.inr ⟨by rfl, rfl⟩) ?_ ?_
                rotate_left
                ·simp only [Act.put, sI_, s0_, sS_, i64_w, i32_w]
                 rfl
                refine pure_ (i := 37) (N := some 209) (v := undef) (a' := ?_) #[y_, y_, y_, y_, y_, y_, y_, y_, y_, y_, y_, y_, y_, y_, y_, y_, y_, y_, y_, y_, y_, y_, y_, y_, y_, y_, y_, y_, y_, y_, y_, y_, y_, y_, y_, y_, y_, y_, n_, n_] rfl rfl (any_of HT_.out (by kernel_rfl)) (fun _ _ _ h => h) (Or.inr ⟨by rfl, rfl⟩) ?_ ?_
                rotate_left
                ·simp only [Act.put, sI_, s0_, sS_, i64_w, i32_w]
                 rfl
                refine pure_ (i := 38) (N := some 210) (v := ?_) (a' := ?_) #[y_, y_, y_, y_, y_, y_, y_, y_, y_, y_, y_, y_, y_, y_, y_, y_, y_, y_, y_, y_, y_, y_, y_, y_, y_, y_, y_, y_, y_, y_, y_, y_, y_, y_, y_, y_, y_, y_, y_, n_] rfl rfl (any_of HT_.out (by kernel_rfl)) (fun _ _ _ h => h) (Or.inl ⟨by rfl, ?_⟩) ?_ ?_
                rotate_left
                ·intro w'
                 go_simp
                 with_reducible rfl
                rotate_left
                ·simp only [Act.put, sI_, s0_, sS_, i64_w, i32_w]
                 rfl
                refine pure_ (i := 39) (N := some 11) (v := ?_) (a' := ?_) #[y_, y_, y_, y_, y_, y_, y_, y_, y_, y_, y_, y_, y_, y_, y_, y_, y_, y_, y_, y_, y_, y_, y_, y_, y_, y_, y_, y_, y_, y_, y_, y_, y_, y_, y_, y_, y_, y_, y_, y_] rfl rfl (any_of HT_.out (by kernel_rfl)) (fun _ _ _ h => h) (Or.inl ⟨by rfl, ?_⟩) ?_ ?_
                rotate_left
                ·intro w'
                 go_simp
                 with_reducible rfl
                rotate_left
                ·simp only [Act.put, sI_, s0_, sS_, i64_w, i32_w]
                 rfl
                refine done_ (done_of HT_.out (by kernel_rfl)) ?_
                try go_wp2
                go_roundg k4
                case measure => have := HJ6.out; have := HK2.out; have := HJ49.out; have := HK4.out; omega
                case rel => exact ⟨(false), (wrap64 (x169_4 + 1)), (by first | rfl | (simp; done) | (simp [*]; done)), (by first | rfl | (simp; done) | (simp [*]; done)), H', ⟨by have := HJ6.out; have := HK2.out; have := HJ49.out; have := HK4.out; omega⟩, ⟨by (with_reducible repeat (first | apply Kd.R_alloc | apply Kd.R_drewN | apply Kd.R_drew)); exact HO_16.out⟩, ⟨by (with_reducible repeat (first | apply Kd.R_alloc | apply Kd.R_drewN | apply Kd.R_drew)); exact HO_18.out⟩, ⟨by (with_reducible repeat (first | apply Kd.R_alloc | apply Kd.R_drewN | apply Kd.R_drew)); exact HO_20.out⟩, ⟨by repeat (first | (with_reducible first | exact HB.out | apply below_alloc | apply pw_below_drewN | apply below_drew1) | exact HB.out)⟩⟩
              ·rw [if_neg c71] at H
               have c71b0 : decide (x169_4 < (l0.length : Int)) = false := decide_eq_false c71
               clear c71
               obtain rfl := Option.some.inj H
               go_wp2
               go_ret
               exact ⟨by first | rfl | (simp [errW_none, errW_some] <;> rfl) | (simp [*, errW_none, errW_some] <;> rfl), by repeat (first | (with_reducible first | exact HB.out | apply below_alloc | apply pw_below_drewN | apply below_drew1) | exact HB.out)⟩
        ·replace c46 := Bool.eq_false_iff.mpr c46
         subst c46
         have H1 : (some false) = some r := by rw [if_neg (show ¬ (false = true) by decide)] at H; exact H
         clear H
         have H := H1
         clear H1
         obtain rfl := Option.some.inj H
         go_wp2_with (first | ((with_reducible refine gate_callee (f := 23) rfl ?_); refine goesL_ (some 112) rfl rfl Try.func23 (by kernel_rfl) rfl #[.slice A1 l1.length c1, .slice A2 l2.length c2] rfl (by (try simp only [List.map_toArray, List.map_cons, List.map_nil]); first | done | rfl | (simp only [List.length_drop, List.length_take]; rfl)) ?_; (with_reducible refine (cohousingref28_Add.calls k2 _ _ l1 _ _ l2 t424 _ ?side1 ?side2 ?side3 ?side4 A44.out).mono ?_); (case side1 => repeat (first | exact (Kd.C_below HR1.out HB.out) | (with_reducible refine Kd.C_alloc ?_ _) | (with_reducible refine Kd.C_drewN ?_ _) | (with_reducible refine Kd.C_drew ?_))); (case side2 => exact HC1.out); (case side3 => repeat (first | exact (Kd.C_below HR2.out HB.out) | (with_reducible refine Kd.C_alloc ?_ _) | (with_reducible refine Kd.C_drewN ?_ _) | (with_reducible refine Kd.C_drew ?_))); (case side4 => exact HC2.out); rintro e w87 ⟨v425, rfl, ho0, hb⟩; refine ⟨_, rfl, ?_⟩; have n0_ := Aside0.mk (Kd.R_below (by (with_reducible repeat (first | apply Kd.R_alloc | apply Kd.R_drewN | apply Kd.R_drew)); exact HO_12.out) hb); have n1_ := Aside0.mk (Kd.R_below (by (with_reducible repeat (first | apply Kd.R_alloc | apply Kd.R_drewN | apply Kd.R_drew)); exact HO_13.out) hb); have n2_ := Aside0.mk (Kd.R_lower ho0 (below_size (by repeat (first | (with_reducible first | exact HB.out | apply below_alloc | apply pw_below_drewN | apply below_drew1) | exact HB.out)))); have n3_ := Aside0.mk (below_step (by repeat (first | (with_reducible first | exact HB.out | apply below_alloc | apply pw_below_drewN | apply below_drew1) | exact HB.out)) hb); clear HO_12; clear HO_13; clear HB; have HO_12 := n0_; have HO_13 := n1_; have HO426 := n2_; have HB := n3_; clear n0_ n1_ n2_ n3_; (try clear hb); (try clear hb2); (try clear hk); (try clear hi); (try clear ho0); obtain ⟨Ao88, co88, eo88⟩ := Kd.R_slice HO_12.out; subst eo88; obtain ⟨Ao89, co89, eo89⟩ := Kd.R_slice HO426.out; subst eo89; obtain ⟨Ao90, co90, eo90⟩ := Kd.R_slice HO_13.out; subst eo90) | ((with_reducible refine gate_callee (f := 22) rfl ?_); refine goesL_ (some 116) rfl rfl Try.func22 (by kernel_rfl) rfl #[.slice Ao88 x12_2.length co88, .slice Ao89 t424.length co89, .slice Ao90 x13_2.length co90] rfl (by (try simp only [List.map_toArray, List.map_cons, List.map_nil]); first | done | rfl | (simp only [List.length_drop, List.length_take]; rfl)) ?_; (with_reducible refine (cohousinglaw28_consistent.calls _ _ x12_2 _ _ t424 _ _ x13_2 false _ ?side1 ?side2 ?side3 ?side4 ?side5 ?side6 A45.out).mono ?_); (case side1 => repeat (first | exact (Kd.R_reads' HO_12.out).2.2 | (with_reducible refine Kd.C_alloc ?_ _) | (with_reducible refine Kd.C_drewN ?_ _) | (with_reducible refine Kd.C_drew ?_))); (case side2 => exact (Kd.R_reads' HO_12.out).2.1); (case side3 => repeat (first | exact (Kd.R_reads' HO426.out).2.2 | (with_reducible refine Kd.C_alloc ?_ _) | (with_reducible refine Kd.C_drewN ?_ _) | (with_reducible refine Kd.C_drew ?_))); (case side4 => exact (Kd.R_reads' HO426.out).2.1); (case side5 => repeat (first | exact (Kd.R_reads' HO_13.out).2.2 | (with_reducible refine Kd.C_alloc ?_ _) | (with_reducible refine Kd.C_drewN ?_ _) | (with_reducible refine Kd.C_drew ?_))); (case side6 => exact (Kd.R_reads' HO_13.out).2.1); rintro e w91 ⟨rfl, hb⟩; refine ⟨_, rfl, ?_⟩; have n0_ := Aside0.mk (Kd.R_below (by (with_reducible repeat (first | apply Kd.R_alloc | apply Kd.R_drewN | apply Kd.R_drew)); exact HO_12.out) hb); have n1_ := Aside0.mk (Kd.R_below (by (with_reducible repeat (first | apply Kd.R_alloc | apply Kd.R_drewN | apply Kd.R_drew)); exact HO_13.out) hb); have n2_ := Aside0.mk (Kd.R_below (by (with_reducible repeat (first | apply Kd.R_alloc | apply Kd.R_drewN | apply Kd.R_drew)); exact HO426.out) hb); have n3_ := Aside0.mk (below_step (by repeat (first | (with_reducible first | exact HB.out | apply below_alloc | apply pw_below_drewN | apply below_drew1) | exact HB.out)) hb); clear HO_12; clear HO_13; clear HO426; clear HB; have HO_12 := n0_; have HO_13 := n1_; have HO426 := n2_; have HB := n3_; clear n0_ n1_ n2_ n3_; (try clear hb); (try clear hb2); (try clear hk); (try clear hi)))
         go_ret
         exact ⟨by first | rfl | (simp [errW_none, errW_some] <;> rfl) | (simp [*, errW_none, errW_some] <;> rfl), by repeat (first | (with_reducible first | exact HB.out | apply below_alloc | apply pw_below_drewN | apply below_drew1) | exact HB.out)⟩
    ·rw [if_neg c23] at H
     exact absurd H (by simp)
end Go.Proofs.Ytmojlpafpeeelaa.P
end
section
namespace Go.Proofs.Ytmojlpafpeeelaa.P
open Go.RowKit Go.Proofs.YtmojlpafpeeelaaW.PrintWords Go.Proofs.YtmojlpafpeeelaaW.PrintLast Go.Proofs.YtmojlpafpeeelaaW.PrintMore
attribute [local go_sem] max2_int min2_int max_two min_two max_three min_three max_four min_four
set_option linter.unusedVariables false
set_option linter.unusedSimpArgs false
mutual
def cohousinglaw28_FlowMatchesReference.j0 : Nat → List (S44) → List (S39) → List Int → Int → Int → Bool → Bool → Option (Bool)
 | 0, _, _, _, _, _, _, _ => none
 | k + 1, x0, x1, x2, x3, x4, x11, x28 => if x28 = true then (some x11) else ((flow_Bounds.f x0 x1).bind fun bt312 => ((cohousingref28_Bounds.f k x0 x1).bind fun bt316 => (if x11 = true then ((flow_Valid.f x0).bind fun t320 => ((cohousingref28_Valid.f k x0).bind fun t321 => (if (t320 == t321) = true then ((cohousingref28_Same.f k bt312.1 bt316.1).bind fun t322 => (if t322 = true then (cohousinglaw28_FlowMatchesReference.j1 k x0 x1 x2 x3 x4 (bt312.2 == bt316.2)) else (cohousinglaw28_FlowMatchesReference.j1 k x0 x1 x2 x3 x4 false))) else (cohousinglaw28_FlowMatchesReference.j1 k x0 x1 x2 x3 x4 false)))) else (cohousinglaw28_FlowMatchesReference.j1 k x0 x1 x2 x3 x4 false))))
def cohousinglaw28_FlowMatchesReference.j1 : Nat → List (S44) → List (S39) → List Int → Int → Int → Bool → Option (Bool)
 | 0, _, _, _, _, _, _ => none
 | k + 1, x0, x1, x2, x3, x4, x11 => (flow_Consistent.f x0 x1 x2).bind fun bt323 => ((cohousingref28_Consistent.f k x0 x1 x2).bind fun bt325 => (if x11 = true then (if (bt323.1 == bt325.1) = true then ((flow_State.f x0 x1 x3 x4).bind fun bt327 => ((cohousingref28_State.f k x0 x1 x3 x4).bind fun bt331 => (if bt323.2 = bt325.2 then ((cohousingref02_Same.f k bt327.1 bt331.1).bind fun t335 => (if t335 = true then (some (bt327.2 == bt331.2)) else (some false))) else (some false)))) else ((flow_State.f x0 x1 x3 x4).bind fun bt336 => ((cohousingref28_State.f k x0 x1 x3 x4).bind fun bt340 => (some false)))) else ((flow_State.f x0 x1 x3 x4).bind fun bt344 => ((cohousingref28_State.f k x0 x1 x3 x4).bind fun bt348 => (some false)))))
end
end Go.Proofs.Ytmojlpafpeeelaa.P
end
section
namespace Go.Proofs.Ytmojlpafpeeelaa.P
open Go.RowKit Go.Proofs.YtmojlpafpeeelaaW.PrintWords Go.Proofs.YtmojlpafpeeelaaW.PrintLast Go.Proofs.YtmojlpafpeeelaaW.PrintMore Go.Proofs.YtmojlpafpeeelaaH Go.Proofs.FlowTree
open Classical
theorem Ev.of_mono {α : Type} {f : Nat → Option α} {r : α} (k0 : Nat) (h0 : f k0 = some r) (h : ∀ k, LeO (f k) (f (k + 1))) : Ev f r := by
 refine ⟨k0, fun k hk => ?_⟩
 obtain ⟨d, rfl⟩ : ∃ d, k = k0 + d := ⟨k - k0, by omega⟩
 induction d with
 | zero => exact h0
 | succ d ih => exact h _ _ (ih (by omega))
theorem head_ev : Ev (fun k => cohousinglaw28_head.f k) true := Ev.of_mono 40 (by kernel_rfl) (fun k => cohousinglaw28_head.mono k)
theorem B_f (l : List PI) (r : List RG) (x : List Int) (hl : l.length ≤ 5864062014805) (hr : r.length ≤ 140737488355328) (hx : x.length ≤ 17592186044416) : flow_Bounds.f l r = some (boundsR l r) := by unfold flow_Bounds.f; rw [if_pos ⟨hl, hr⟩]
theorem C_f (l : List PI) (r : List RG) (x : List Int) (hl : l.length ≤ 5864062014805) (hr : r.length ≤ 140737488355328) (hx : x.length ≤ 17592186044416) : flow_Consistent.f l r x = some (consR l r x) := by unfold flow_Consistent.f; rw [if_pos ⟨hl, hr, hx⟩]
section
variable (l : List PI) (r : List RG) (x : List Int) (hl : l.length ≤ 5864062014805) (hr : r.length ≤ 140737488355328) (hx : x.length ≤ 17592186044416)
include hl hr hx
end
end Go.Proofs.Ytmojlpafpeeelaa.P
end
section
namespace Go.Proofs.Ytmojlpafpeeelaa.P
open Go.RowKit Go.Proofs.YtmojlpafpeeelaaW.PrintWords Go.Proofs.YtmojlpafpeeelaaW.PrintLast Go.Proofs.YtmojlpafpeeelaaW.PrintMore
attribute [local go_sem] max2_int min2_int max_two min_two max_three min_three max_four min_four
set_option linter.unusedVariables false
set_option linter.unusedSimpArgs false
mutual
def cohousinglaw28_FlowWithin.j0 : Nat → List (S44) → List (S39) → List Int → Bool → Bool → Option (Bool)
 | 0, _, _, _, _, _ => none
 | k + 1, x0, x1, x2, x7, x21 => if x21 = true then (some x7) else ((flow_Bounds.f x0 x1).bind fun bt386 => (if bt386.2 = 0 then (if (bt386.1.length : Int) = (x2.length : Int) then (cohousinglaw28_FlowWithin.j1 k x1 x2 x7 bt386.1 ((x1.length : Int) != (x2.length : Int))) else (cohousinglaw28_FlowWithin.j1 k x1 x2 x7 bt386.1 true)) else (cohousinglaw28_FlowWithin.j1 k x1 x2 x7 bt386.1 true)))
def cohousinglaw28_FlowWithin.j1 : Nat → List (S39) → List Int → Bool → List (S39) → Bool → Option (Bool)
 | 0, _, _, _, _, _ => none
 | k + 1, x1, x2, x7, x8, x44 => if x44 = true then (some false) else (cohousinglaw28_FlowWithin.l0 k x1 x2 x7 x8 (x2.length : Int) 0)
def cohousinglaw28_FlowWithin.l0 : Nat → List (S39) → List Int → Bool → List (S39) → Int → Int → Option (Bool)
 | 0, _, _, _, _, _, _ => none
 | k + 1, x1, x2, x7, x8, x46, x47 => if x47 < x46 then (if x7 = true then (if 0 ≤ x47 then (if x47 < (x8.length : Int) then (if x47 < (x2.length : Int) then (if ((rd_T39 x8 x47).f0) ≤ (rd x2 x47) then (if (rd x2 x47) ≤ ((rd_T39 x8 x47).f1) then (if x47 < (x1.length : Int) then (if ((rd_T39 x1 x47).f0) ≤ ((rd_T39 x8 x47).f0) then (cohousinglaw28_FlowWithin.l0 k x1 x2 (decide (((rd_T39 x8 x47).f1) ≤ ((rd_T39 x1 x47).f1))) x8 x46 (wrap64 (x47 + 1))) else (cohousinglaw28_FlowWithin.l0 k x1 x2 false x8 x46 (wrap64 (x47 + 1)))) else (none)) else (cohousinglaw28_FlowWithin.l0 k x1 x2 false x8 x46 (wrap64 (x47 + 1)))) else (cohousinglaw28_FlowWithin.l0 k x1 x2 false x8 x46 (wrap64 (x47 + 1)))) else (none)) else (none)) else (none)) else (cohousinglaw28_FlowWithin.l0 k x1 x2 false x8 x46 (wrap64 (x47 + 1)))) else (some x7)
end
end Go.Proofs.Ytmojlpafpeeelaa.P
end
section
namespace Go.Proofs.Ytmojlpafpeeelaa.P
open Go.RowKit Go.Proofs.YtmojlpafpeeelaaW.PrintWords Go.Proofs.YtmojlpafpeeelaaW.PrintLast Go.Proofs.YtmojlpafpeeelaaW.PrintMore
attribute [local go_sem] max2_int min2_int max_two min_two max_three min_three max_four min_four
set_option linter.unusedVariables false
set_option linter.unusedSimpArgs false
mutual
def cohousinglaw28_FlowFirst.j0 : Nat → List (S44) → List (S39) → List Int → Int → Bool → Bool → Option (Bool)
 | 0, _, _, _, _, _, _ => none
 | k + 1, x0, x1, x2, x3, x9, x33 => if x33 = true then (some x9) else (if 0 ≤ x3 then (if x3 < (x2.length : Int) then ((flow_State.f x0 x1 x3 (rd x2 x3)).bind fun bt449 => (if bt449.2 = 0 then (cohousinglaw28_FlowFirst.j1 k x2 x9 bt449.1 ((bt449.1.length : Int) != (x2.length : Int))) else (cohousinglaw28_FlowFirst.j1 k x2 x9 bt449.1 true))) else (none)) else (none))
def cohousinglaw28_FlowFirst.j1 : Nat → List Int → Bool → List Int → Bool → Option (Bool)
 | 0, _, _, _, _ => none
 | k + 1, x2, x9, x10, x54 => if x54 = true then (some false) else (cohousinglaw28_FlowFirst.l0 k x2 x9 x10 (x2.length : Int) 0)
def cohousinglaw28_FlowFirst.l0 : Nat → List Int → Bool → List Int → Int → Int → Option (Bool)
 | 0, _, _, _, _, _ => none
 | k + 1, x2, x9, x10, x56, x57 => if x57 < x56 then (if 0 ≤ x57 then (if x57 < (x2.length : Int) then (if x57 < (x10.length : Int) then (if (rd x2 x57) = (rd x10 x57) then (cohousinglaw28_FlowFirst.l0 k x2 x9 x10 x56 (wrap64 (x57 + 1))) else (if x9 = true then (some (decide ((rd x10 x57) < (rd x2 x57)))) else (some false))) else (none)) else (none)) else (none)) else (some x9)
end
end Go.Proofs.Ytmojlpafpeeelaa.P
end
section
namespace Go.Proofs.Ytmojlpafpeeelaa.P
open Go.RowKit Go.Proofs.YtmojlpafpeeelaaW.PrintWords Go.Proofs.YtmojlpafpeeelaaW.PrintLast Go.Proofs.YtmojlpafpeeelaaW.PrintMore
attribute [local go_sem] max2_int min2_int max_two min_two max_three min_three max_four min_four
set_option linter.unusedVariables false
set_option linter.unusedSimpArgs false
mutual
def cohousinglaw28_FlowExact.j0 : Nat → List (S44) → List (S39) → Int → Int → Bool → Bool → Option (Bool)
 | 0, _, _, _, _, _, _ => none
 | k + 1, x0, x1, x2, x3, x9, x32 => if x32 = true then (some x9) else ((flow_Bounds.f x0 x1).bind fun bt358 => (if bt358.2 = 0 then (if (bt358.1.length : Int) = (x0.length : Int) then (if 0 ≤ x2 then (if x2 < (bt358.1.length : Int) then (cohousinglaw28_FlowExact.j1 k x0 x1 x2 x3 x9 bt358.1 (decide (((rd_T39 bt358.1 x2).f0) > ((rd_T39 bt358.1 x2).f1)))) else (none)) else (none)) else (cohousinglaw28_FlowExact.j1 k x0 x1 x2 x3 x9 bt358.1 true)) else ((flow_State.f x0 x1 x2 x3).bind fun bt362 => (if x9 = true then (if bt358.2 = 30 then (if bt362.2 = 30 then (some ((bt362.1.length : Int) == 0)) else (some false)) else (some false)) else (some false)))))
def cohousinglaw28_FlowExact.j1 : Nat → List (S44) → List (S39) → Int → Int → Bool → List (S39) → Bool → Option (Bool)
 | 0, _, _, _, _, _, _, _ => none
 | k + 1, x0, x1, x2, x3, x9, x10, x81 => if x81 = true then (some false) else (if 0 ≤ x2 then (if x2 < (x10.length : Int) then ((some (([x3, (rd_T39 x10 x2).f0, (rd_T39 x10 x2).f1, wrap64 (((rd_T39 x10 x2).f0) - 1), wrap64 (((rd_T39 x10 x2).f1) + 1)] : List Int) : List Int)).bind fun y372 => (cohousinglaw28_FlowExact.l0 k x0 x1 x2 x9 x10 y372 (y372.length : Int) 0)) else (none)) else (none))
def cohousinglaw28_FlowExact.l0 : Nat → List (S44) → List (S39) → Int → Bool → List (S39) → List Int → Int → Int → Option (Bool)
 | 0, _, _, _, _, _, _, _, _ => none
 | k + 1, x0, x1, x2, x9, x10, x105, x106, x107 => if x107 < x106 then (if 0 ≤ x107 then (if x107 < (x105.length : Int) then ((flow_State.f x0 x1 x2 (rd x105 x107)).bind fun bt376 => (if 0 ≤ x2 then (if x2 < (x10.length : Int) then (if (rd x105 x107) < ((rd_T39 x10 x2).f0) then (cohousinglaw28_FlowExact.j3 k x0 x1 x2 x9 x10 (rd x105 x107) bt376.1 bt376.2 x105 x106 x107 true) else (cohousinglaw28_FlowExact.j3 k x0 x1 x2 x9 x10 (rd x105 x107) bt376.1 bt376.2 x105 x106 x107 (decide ((rd x105 x107) > ((rd_T39 x10 x2).f1))))) else (none)) else (none))) else (none)) else (none)) else (some x9)
def cohousinglaw28_FlowExact.j3 : Nat → List (S44) → List (S39) → Int → Bool → List (S39) → Int → List Int → Int → List Int → Int → Int → Bool → Option (Bool)
 | 0, _, _, _, _, _, _, _, _, _, _, _, _ => none
 | k + 1, x0, x1, x2, x9, x10, x15, x16, x17, x105, x106, x107, x134 => if x134 = true then (if x9 = true then (if x17 = 30 then (cohousinglaw28_FlowExact.l0 k x0 x1 x2 ((x16.length : Int) == 0) x10 x105 x106 (wrap64 (x107 + 1))) else (cohousinglaw28_FlowExact.l0 k x0 x1 x2 false x10 x105 x106 (wrap64 (x107 + 1)))) else (cohousinglaw28_FlowExact.l0 k x0 x1 x2 false x10 x105 x106 (wrap64 (x107 + 1)))) else (if x17 = 0 then (if (x16.length : Int) = (x0.length : Int) then (if 0 ≤ x2 then (if x2 < (x16.length : Int) then (if (rd x16 x2) = x15 then ((cohousinglaw28_consistent.f x0 x1 x16).bind fun t383 => (if t383 = true then (cohousinglaw28_FlowExact.l0 k x0 x1 x2 x9 x10 x105 x106 (wrap64 (x107 + 1))) else (some false))) else (some false)) else (none)) else (none)) else (some false)) else (some false))
end
end Go.Proofs.Ytmojlpafpeeelaa.P
end
section
namespace Go.Proofs.Ytmojlpafpeeelaa.P
open Go.RowKit Go.Proofs.YtmojlpafpeeelaaW.PrintWords Go.Proofs.YtmojlpafpeeelaaW.PrintLast Go.Proofs.YtmojlpafpeeelaaW.PrintMore Go.Proofs.YtmojlpafpeeelaaH Go.Proofs.FlowTree
open Classical
def Cons (l : List PI) (r : List RG) (x : List Int) : Prop := Good l r ∧ x.length = l.length ∧ Sol (netT l) (lo9 r) (hi9 r) (fx x)
section
variable (l : List PI) (r : List RG) (x : List Int) (hl : l.length ≤ 5864062014805) (hr : r.length ≤ 140737488355328) (hx : x.length ≤ 17592186044416)
theorem consistent_f (l : List PI) (r : List RG) (x : List Int) (hl : l.length ≤ 5864062014805) (hr : r.length ≤ 140737488355328) (hx : x.length ≤ 17592186044416) : cohousinglaw28_consistent.f l r x = some (decide (Cons l r x)) := by
 unfold cohousinglaw28_consistent.f
 rw [C_f l r x hl hr hx, Option.bind_some, consR_is]
 by_cases hg : Good l r ∧ x.length = l.length
 ·rw [if_pos hg]
  by_cases hs : Sol (netT l) (lo9 r) (hi9 r) (fx x)
  ·rw [decide_eq_true hs, decide_eq_true (show Cons l r x from ⟨hg.1, hg.2, hs⟩)]
   rfl
  ·rw [decide_eq_false hs, decide_eq_false (show ¬ Cons l r x from fun h => hs h.2.2)]
   rfl
 ·rw [if_neg hg, decide_eq_false (show ¬ Cons l r x from fun h => hg ⟨h.1, h.2.1⟩)]
  rfl
theorem bounds_cons {l : List PI} {r : List RG} (hg : Good l r) (hs : ∃ x, Sol (netT l) (lo9 r) (hi9 r) x) : ∃ d, boundsR l r = (d.map toR, 0) ∧ Exact l (lo9 r) (hi9 r) d := by
 have h := boundsR_is l r
 generalize boundsR l r = q at h
 cases h with
 | arg h => exact absurd hg h
 | flow _ h => exact absurd hs h
 | ok d _ h => exact ⟨d, rfl, h⟩
end
end Go.Proofs.Ytmojlpafpeeelaa.P
end
section
namespace Go.Proofs.Ytmojlpafpeeelaa.P
open Go.RowKit Go.Proofs.YtmojlpafpeeelaaW.PrintWords Go.Proofs.YtmojlpafpeeelaaW.PrintLast Go.Proofs.YtmojlpafpeeelaaW.PrintMore Go.Proofs.YtmojlpafpeeelaaH Go.Proofs.FlowTree
open Classical
def twoP (l : List PI) (j : Nat) : PI := ⟨idP l j, abP l j, 2 * loP l j⟩
def sumR (a b : List RG) (j : Nat) : RG := ⟨lo9 a j + lo9 b j, hi9 a j + hi9 b j⟩
theorem pp_map (f : Nat → PI) (n j : Nat) (h : j < n) : rd_T44 ((List.range n).map f) (j : Int) = f j := by
 simp [rd_T44, List.getD_eq_getElem?_getD, h]
theorem fx_map (f : Nat → Int) (n j : Nat) (h : j < n) : fx ((List.range n).map f) j = f j := by
 simp [fx, rd, List.getD_eq_getElem?_getD, h]
theorem add_l0 (a b : List RG) (n : Nat) (ha : a.length = n) (hb : b.length = n) (hn : n ≤ 200) (hva : ∀ j, j < n → 0 ≤ lo9 a j ∧ lo9 a j ≤ 1000000000 ∧ 0 ≤ hi9 a j ∧ hi9 a j ≤ 1000000000) (hvb : ∀ j, j < n → 0 ≤ lo9 b j ∧ lo9 b j ≤ 1000000000 ∧ 0 ≤ hi9 b j ∧ hi9 b j ≤ 1000000000) :
  ∀ (d i : Nat), i + d = n → Ev (fun k => cohousingref28_Add.l0 k a b ((List.range i).map (sumR a b)) (i : Int)) ((List.range n).map (sumR a b)) := by
 intro d
 induction d with
 | zero =>
  intro i hi
  have h1 : ¬ ((i : Int) < (a.length : Int)) := by omega
  refine Ev.step ?_
  simp only [cohousingref28_Add.l0, h1, if_false]
  rw [show i = n by omega]
  exact Ev.pure _
 | succ d ih =>
  intro i hi
  have h1 : ((i : Int) < (a.length : Int)) := by omega
  have h2 : ((i : Int) < (b.length : Int)) := by omega
  have h3 : (0 : Int) ≤ (i : Int) := by omega
  have h4 : ((List.range i).map (sumR a b)).length < 8796093022208 := by rw [List.length_map, List.length_range]; omega
  have e1 : (rd_T39 a (i : Int)).f0 = lo9 a i := rfl
  have e2 : (rd_T39 a (i : Int)).f1 = hi9 a i := rfl
  have e3 : (rd_T39 b (i : Int)).f0 = lo9 b i := rfl
  have e4 : (rd_T39 b (i : Int)).f1 = hi9 b i := rfl
  have v1 := hva i (by omega)
  have v2 := hvb i (by omega)
  refine Ev.step ?_
  simp only [cohousingref28_Add.l0, h1, h2, h3, h4, if_true, e1, e2, e3, e4, wrap_nat (show i ≤ 140737488355328 by omega)]
  rw [wrap_id (n := lo9 a i + lo9 b i) (by omega) (by omega), wrap_id (n := hi9 a i + hi9 b i) (by omega) (by omega)]
  have := ih (i + 1) (by omega)
  rw [List.range_succ, List.map_append] at this
  exact this
section
variable {l : List PI} {a b : List RG} {x y : List Int}
theorem two_id {l : List PI} (j : Nat) (h : j < l.length) : idP ((List.range l.length).map (twoP l)) j = idP l j ∧ abP ((List.range l.length).map (twoP l)) j = abP l j ∧ loP ((List.range l.length).map (twoP l)) j = 2 * loP l j := by
 simp only [idP, abP, loP]
 rw [pp_map (twoP l) l.length j h]
 exact ⟨rfl, rfl, rfl⟩
theorem two_kids {l : List PI} (i : Nat) (hi : i < l.length) : kidsAt ((List.range l.length).map (twoP l)) ((List.range l.length).map (twoP l)).length i = kidsAt l l.length i := by
 have hlen : ((List.range l.length).map (twoP l)).length = l.length := by rw [List.length_map, List.length_range]
 rw [hlen]
 unfold kidsAt
 apply List.filter_congr
 intro k hk
 have hk' := List.mem_range.1 hk
 rw [(two_id k hk').2.1, (two_id i hi).1]
theorem two_ok {l : List PI} (h : okL l) (h2 : ∀ j, j < l.length → loP l j ≤ 500000000) : okL ((List.range l.length).map (twoP l)) := by
 have hlen : ((List.range l.length).map (twoP l)).length = l.length := by rw [List.length_map, List.length_range]
 intro i hi
 rw [hlen] at hi
 have hi' := h i hi
 have ht := two_id i hi
 unfold okP
 rw [ht.1, ht.2.1, ht.2.2]
 refine ⟨hi'.1, fun h0 => ?_, ?_, fun ha => ?_⟩
 ·rw [(two_id (i - 1) (by omega)).1]; exact hi'.2.1 h0
 ·have := hi'.2.2.1; have := h2 i hi; omega
 ·obtain ⟨j, hj, e⟩ := hi'.2.2.2 ha
  exact ⟨j, hj, by rw [(two_id j (by omega)).1]; exact e⟩
def twl (l : List PI) (i : Nat) : List PI := (List.range l.length).map (fun j => if j < i then twoP l j else rd_T44 l j)
theorem twl_len (l : List PI) (i : Nat) : (twl l i).length = l.length := by simp [twl]
theorem twl_rd (l : List PI) (i j : Nat) (h : j < l.length) : rd_T44 (twl l i) (j : Int) = if j < i then twoP l j else rd_T44 l j := pp_map _ _ _ h
theorem twl_zero (l : List PI) : twl l 0 = l := by
 apply List.ext_getElem (twl_len l 0)
 intro i h1 h2
 simp [twl, rd_T44, List.getD_eq_getElem?_getD, h2]
theorem twl_succ (l : List PI) (i : Nat) (hi : i < l.length) : (twl l i).set i (twoP l i) = twl l (i + 1) := by
 apply List.ext_getElem (by rw [List.length_set, twl_len, twl_len])
 intro j h1 h2
 rw [twl_len] at h2
 rw [List.getElem_set]
 simp only [twl, List.getElem_map, List.getElem_range]
 by_cases e : i = j
 ·subst e; rw [if_pos rfl, if_pos (by omega)]
 ·rw [if_neg e]
  by_cases h : j < i
  ·rw [if_pos h, if_pos (by omega)]
  ·rw [if_neg h, if_neg (by omega)]
theorem twl_all (l : List PI) : twl l l.length = (List.range l.length).map (twoP l) := by
 unfold twl
 apply List.map_congr_left
 intro j hj
 rw [if_pos (List.mem_range.1 hj)]
theorem lo_sum (a b : List RG) (n j : Nat) (h : j < n) : lo9 ((List.range n).map (sumR a b)) j = lo9 a j + lo9 b j := by
 show (rr ((List.range n).map (sumR a b)) j).f0 = _
 rw [rr_map (sumR a b) n j h]; rfl
theorem hi_sum (a b : List RG) (n j : Nat) (h : j < n) : hi9 ((List.range n).map (sumR a b)) j = hi9 a j + hi9 b j := by
 show (rr ((List.range n).map (sumR a b)) j).f1 = _
 rw [rr_map (sumR a b) n j h]; rfl
theorem two_sol {l : List PI} {a b : List RG} {x y : Nat → Int} (hok : okL l) (hx : Sol (netT l) (lo9 a) (hi9 a) x) (hy : Sol (netT l) (lo9 b) (hi9 b) y) {z : Nat → Int} (hz : ∀ j, j < l.length → z j = x j + y j) :
  Sol (netT ((List.range l.length).map (twoP l))) (lo9 ((List.range l.length).map (sumR a b))) (hi9 ((List.range l.length).map (sumR a b))) z := by
 have hlen : ((List.range l.length).map (twoP l)).length = l.length := by rw [List.length_map, List.length_range]
 refine ⟨fun i hi => ?_, fun i hi => ?_⟩
 ·have hi' : i < l.length := by rw [← hlen]; exact hi
  have h1 := hx.1 i hi'
  have h2 := hy.1 i hi'
  rw [lo_sum a b _ _ hi', hi_sum a b _ _ hi', hz i hi']
  omega
 ·have hi' : i < l.length := by rw [← hlen]; exact hi
  have h1 := hx.2 i hi'
  have h2 := hy.2 i hi'
  intro hk
  have hk2 : kidsAt ((List.range l.length).map (twoP l)) ((List.range l.length).map (twoP l)).length i = kidsAt l l.length i := two_kids i hi'
  have hk3 : (netT ((List.range l.length).map (twoP l))).kid i = kidsAt l l.length i := hk2
  rw [hk3] at hk ⊢
  have g1 := h1 hk
  have g2 := h2 hk
  have hs : sm z (kidsAt l l.length i) = sm x (kidsAt l l.length i) + sm y (kidsAt l l.length i) := by
   rw [← sm_add]
   exact sm_congr (fun k hk => hz k ((netT_ok hok).lt i k hk).2)
  have hl2 : (netT ((List.range l.length).map (twoP l))).loss i = 2 * loP l i := (two_id i hi').2.2
  rw [hs, hz i hi', hl2]
  have e1 : (netT l).kid i = kidsAt l l.length i := rfl
  have e2 : (netT l).loss i = loP l i := rfl
  rw [e1, e2] at g1 g2
  omega
def zz (x y : List Int) (j : Nat) : Int := fx x j + fx y j
theorem two_cons {l : List PI} {a b : List RG} {x y : List Int} (ha : Cons l a x) (hb : Cons l b y) (h5 : ∀ j, j < l.length → loP l j ≤ 500000000 ∧ hi9 a j ≤ 500000000 ∧ hi9 b j ≤ 500000000) :
  Cons ((List.range l.length).map (twoP l)) ((List.range l.length).map (sumR a b)) ((List.range l.length).map (zz x y)) := by
 have hlen : ((List.range l.length).map (twoP l)).length = l.length := by rw [List.length_map, List.length_range]
 refine ⟨⟨two_ok ha.1.ok (fun j hj => (h5 j hj).1), by rw [hlen]; exact ha.1.n, by rw [hlen, List.length_map, List.length_range], ?_⟩, by rw [hlen, List.length_map, List.length_range], ?_⟩
 ·rw [hlen]
  intro j hj
  rw [lo_sum a b _ _ hj, hi_sum a b _ _ hj]
  have h1 := ha.1.vol j hj
  have h2 := hb.1.vol j hj
  have h3 := h5 j hj
  omega
 ·exact two_sol ha.1.ok ha.2.2 hb.2.2 (fun j hj => fx_map (zz x y) _ _ hj)
theorem sums_l1 {n : Nat} {a b c : List IV} (hn : n ≤ 200) (ha : a.length = n) (hb : b.length = n) (hc : c.length = n) (hva : ∀ j, j < n → 0 ≤ Lo a j ∧ Lo a j ≤ Hi a j ∧ Hi a j ≤ 1000000000) (hvb : ∀ j, j < n → 0 ≤ Lo b j ∧ Lo b j ≤ Hi b j ∧ Hi b j ≤ 1000000000)
  (h : ∀ j, j < n → Lo c j ≤ Lo a j + Lo b j ∧ Hi a j + Hi b j ≤ Hi c j) : ∀ d i : Nat, i + d = n → Ev (fun k => cohousinglaw28_FlowSums.l1 k true (a.map toR) (b.map toR) (c.map toR) (n : Int) (i : Int)) true := by
 intro d
 induction d with
 | zero =>
  intro i hi
  have h1 : ¬ ((i : Int) < (n : Int)) := by omega
  refine Ev.step ?_
  simp only [cohousinglaw28_FlowSums.l1, h1, if_false]
  exact Ev.pure _
 | succ d ih =>
  intro i hi
  have h1 : ((i : Int) < (n : Int)) := by omega
  have h2 : (0 : Int) ≤ (i : Int) := by omega
  have h3 : ((i : Int) < ((c.map toR).length : Int)) := by rw [List.length_map, hc]; exact h1
  have h4 : ((i : Int) < ((a.map toR).length : Int)) := by rw [List.length_map, ha]; exact h1
  have h5 : ((i : Int) < ((b.map toR).length : Int)) := by rw [List.length_map, hb]; exact h1
  have e1 : (rd_T39 (c.map toR) (i : Int)).f0 = Lo c i := congrFun (lo_map c) i
  have e2 : (rd_T39 (c.map toR) (i : Int)).f1 = Hi c i := congrFun (hi_map c) i
  have e3 : (rd_T39 (a.map toR) (i : Int)).f0 = Lo a i := congrFun (lo_map a) i
  have e4 : (rd_T39 (a.map toR) (i : Int)).f1 = Hi a i := congrFun (hi_map a) i
  have e5 : (rd_T39 (b.map toR) (i : Int)).f0 = Lo b i := congrFun (lo_map b) i
  have e6 : (rd_T39 (b.map toR) (i : Int)).f1 = Hi b i := congrFun (hi_map b) i
  have v1 := hva i (by omega)
  have v2 := hvb i (by omega)
  have v3 := h i (by omega)
  have w1 := wrap_id (n := Lo a i + Lo b i) (by omega) (by omega)
  have w2 := wrap_id (n := Hi a i + Hi b i) (by omega) (by omega)
  have c1 : Lo c i ≤ Lo a i + Lo b i := v3.1
  have c2 : decide (Hi a i + Hi b i ≤ Hi c i) = true := decide_eq_true v3.2
  refine Ev.step ?_
  simp only [cohousinglaw28_FlowSums.l1, h1, h2, h3, h4, h5, e1, e2, e3, e4, e5, e6, w1, w2, c1, c2, if_true, wrap_nat (show i ≤ 140737488355328 by omega)]
  exact ih (i + 1) (by omega)
theorem add_ev {l : List PI} {a b : List RG} (ha : Good l a) (hb : Good l b) : Ev (fun k => cohousingref28_Add.f k a b) ((List.range l.length).map (sumR a b)) :=
 add_l0 a b l.length ha.len hb.len ha.n (fun j hj => by have := ha.vol j hj; omega) (fun j hj => by have := hb.vol j hj; omega) l.length 0 (by omega)
theorem sums_end {l : List PI} {a b : List RG} {x y : List Int} (ha : Cons l a x) (hb : Cons l b y) (h5 : ∀ j, j < l.length → loP l j ≤ 500000000 ∧ hi9 a j ≤ 500000000 ∧ hi9 b j ≤ 500000000) :
  Ev (fun k => cohousinglaw28_FlowSums.l0 k l a b x y true (twl l l.length) ((List.range l.length).map (zz x y)) (l.length : Int) (l.length : Int)) true := by
 have hn := ha.1.n
 have hC := two_cons ha hb h5
 have hlen : ((List.range l.length).map (twoP l)).length = l.length := by rw [List.length_map, List.length_range]
 have hcf := consistent_f ((List.range l.length).map (twoP l)) ((List.range l.length).map (sumR a b)) ((List.range l.length).map (zz x y)) (by rw [hlen]; omega) (by rw [List.length_map, List.length_range]; omega) (by rw [List.length_map, List.length_range]; omega)
 rw [decide_eq_true hC] at hcf
 obtain ⟨da, hba, hda⟩ := bounds_cons ha.1 ⟨_, ha.2.2⟩
 obtain ⟨db, hbb, hdb⟩ := bounds_cons hb.1 ⟨_, hb.2.2⟩
 obtain ⟨dc, hbc, hdc⟩ := bounds_cons hC.1 ⟨_, hC.2.2⟩
 have fa := B_f l a [] (by omega) (by rw [ha.1.len]; omega) (by simp)
 have fb := B_f l b [] (by omega) (by rw [hb.1.len]; omega) (by simp)
 have fc := B_f ((List.range l.length).map (twoP l)) ((List.range l.length).map (sumR a b)) [] (by rw [hlen]; omega) (by rw [List.length_map, List.length_range]; omega) (by simp)
 rw [hba] at fa
 rw [hbb] at fb
 rw [hbc] at fc
 have hdcl : dc.length = l.length := by rw [hdc.len, hlen]
 have h1 : ¬ ((l.length : Int) < (l.length : Int)) := by omega
 rw [twl_all]
 refine Ev.step ?_
 simp only [cohousinglaw28_FlowSums.l0, h1, if_false]
 refine Ev.bnd (add_ev ha.1 hb.1) ?_
 have n1 : (((da.map toR).length : Nat) : Int) = (l.length : Int) := by rw [List.length_map, hda.len]
 have n2 : (((db.map toR).length : Nat) : Int) = (l.length : Int) := by rw [List.length_map, hdb.len]
 have n3 : ((((dc.map toR).length : Nat) : Int) != (l.length : Int)) = false := by rw [List.length_map, hdcl]; simp
 simp only [hcf, Option.bind_some, if_true, fa, fb, fc, n1, n2, n3]
 refine Ev.step ?_
 simp only [cohousinglaw28_FlowSums.j2, Bool.false_eq_true, if_false]
 refine sums_l1 (n := l.length) hn hda.len hdb.len hdcl (fun j hj => by have := hda.rng j hj; omega) (fun j hj => by have := hdb.rng j hj; omega) (fun j hj => ?_) l.length 0 (by omega)
 have r1 := hda.rng j hj
 have r2 := hdb.rng j hj
 obtain ⟨x1, s1, e1⟩ := hda.had j hj (Lo da j) (by omega) (by omega)
 obtain ⟨y1, t1, f1⟩ := hdb.had j hj (Lo db j) (by omega) (by omega)
 obtain ⟨x2, s2, e2⟩ := hda.had j hj (Hi da j) (by omega) (by omega)
 obtain ⟨y2, t2, f2⟩ := hdb.had j hj (Hi db j) (by omega) (by omega)
 have g1 := hdc.sol (fun i => x1 i + y1 i) (two_sol ha.1.ok s1 t1 (fun _ _ => rfl)) j (by rw [hlen]; exact hj)
 have g2 := hdc.sol (fun i => x2 i + y2 i) (two_sol ha.1.ok s2 t2 (fun _ _ => rfl)) j (by rw [hlen]; exact hj)
 simp only [e1, f1, e2, f2] at g1 g2
 omega
theorem sums_l0 {l : List PI} {a b : List RG} {x y : List Int} (ha : Cons l a x) (hb : Cons l b y) : ∀ d i : Nat, i + d = l.length → (∀ j, j < i → loP l j ≤ 500000000 ∧ hi9 a j ≤ 500000000 ∧ hi9 b j ≤ 500000000) →
  Ev (fun k => cohousinglaw28_FlowSums.l0 k l a b x y true (twl l i) ((List.range i).map (zz x y)) (l.length : Int) (i : Int)) true := by
 have hn := ha.1.n
 intro d
 induction d with
 | zero =>
  intro i hi h5
  have e : i = l.length := by omega
  subst e
  exact sums_end ha hb h5
 | succ d ih =>
  intro i hi h5
  have hil : i < l.length := by omega
  have h1 : ((i : Int) < (l.length : Int)) := by omega
  have h2 : (0 : Int) ≤ (i : Int) := by omega
  have h3 : ((i : Int) < (a.length : Int)) := by rw [ha.1.len]; exact h1
  have h4 : ((i : Int) < (b.length : Int)) := by rw [hb.1.len]; exact h1
  have h6 : ((i : Int) < ((twl l i).length : Int)) := by rw [twl_len]; exact h1
  have h7 : ((i : Int) < (x.length : Int)) := by rw [ha.2.1]; exact h1
  have h8 : ((i : Int) < (y.length : Int)) := by rw [hb.2.1]; exact h1
  have h9 : ((List.range i).map (zz x y)).length < 17592186044416 := by rw [List.length_map, List.length_range]; omega
  have q1 : (rd_T44 l (i : Int)).f2 = loP l i := rfl
  have q2 : (rd_T39 a (i : Int)).f1 = hi9 a i := rfl
  have q3 : (rd_T39 b (i : Int)).f1 = hi9 b i := rfl
  refine Ev.step ?_
  by_cases c1 : loP l i > 500000000
  ·simp only [cohousinglaw28_FlowSums.l0, h1, h2, if_true, q1, c1]
   exact Ev.pure _
  by_cases c2 : hi9 a i > 500000000
  ·simp only [cohousinglaw28_FlowSums.l0, h1, h2, h3, if_true, q1, q2, c1, c2, if_false]
   exact Ev.pure _
  by_cases c3 : hi9 b i > 500000000
  ·simp only [cohousinglaw28_FlowSums.l0, h1, h2, h3, h4, if_true, q1, q2, q3, c1, c2, c3, if_false]
   exact Ev.pure _
  have g := ih (i + 1) (by omega) (fun j hj => by
   by_cases e : j = i
   ·subst e; omega
   ·exact h5 j (by omega))
  have hloss := (ha.1.ok i hil).2.2.1
  have hxr := ha.2.2.1 i hil
  have hyr := hb.2.2.1 i hil
  have hva := ha.1.vol i hil
  have hvb := hb.1.vol i hil
  have w1 := wrap_id (n := 2 * loP l i) (by omega) (by omega)
  have w2 := wrap_id (n := fx x i + fx y i) (by omega) (by omega)
  have q4 : rd_T44 (twl l i) (i : Int) = rd_T44 l (i : Int) := by rw [twl_rd l i i hil, if_neg (Nat.lt_irrefl _)]
  have q5 : rd x (i : Int) = fx x i := rfl
  have q6 : rd y (i : Int) = fx y i := rfl
  simp only [cohousinglaw28_FlowSums.l0, h1, h2, h3, h4, h6, h7, h8, h9, if_true, q1, q2, q3, q4, q5, q6, c1, c2, c3, if_false, w1, w2, Int.toNat_natCast, wrap_nat (show i ≤ 140737488355328 by omega)]
  rw [List.range_succ, List.map_append, ← twl_succ l i hil] at g
  exact g
theorem sums_ (l : List PI) (a b : List RG) (x y : List Int) (hl : l.length ≤ 5864062014805) (hra : a.length ≤ 140737488355328) (hrb : b.length ≤ 140737488355328) (hx : x.length ≤ 17592186044416) (hy : y.length ≤ 17592186044416) : Ev (fun k => cohousinglaw28_FlowSums.f k l a b x y) true := by
 have hout : Ev (fun k => cohousinglaw28_FlowSums.j0 k l a b x y true true) true := by
  refine Ev.step ?_
  simp only [cohousinglaw28_FlowSums.j0, if_true]
  exact Ev.pure _
 unfold cohousinglaw28_FlowSums.f
 refine Ev.bnd head_ev ?_
 by_cases h40 : (l.length : Int) > 40
 ·simp only [h40, if_true]
  exact hout
 simp only [h40, if_false, consistent_f l a x hl hra hx, consistent_f l b y hl hrb hy, Option.bind_some]
 by_cases ca : Cons l a x
 case neg =>
  rw [decide_eq_false ca]
  simp only [Bool.false_eq_true, if_false]
  exact hout
 rw [decide_eq_true ca]
 simp only [if_true]
 by_cases cb : Cons l b y
 case neg =>
  rw [decide_eq_false cb]
  simp only [Bool.false_eq_true, if_false]
  exact hout
 rw [decide_eq_true cb]
 have e1 : ((x.length : Int)) = (l.length : Int) := by rw [ca.2.1]
 have e2 : ((y.length : Int) != (l.length : Int)) = false := by rw [cb.2.1]; simp
 simp only [if_true, e1, e2]
 refine Ev.step ?_
 have h1 : ([] : List PI).length + l.length < 5864062014805 := by have := ca.1.n; simp only [List.length_nil]; omega
 simp only [cohousinglaw28_FlowSums.j0, Bool.false_eq_true, if_false, Option.bind_some, h1, if_true, List.nil_append]
 have := sums_l0 ca cb l.length 0 (by omega) (fun j hj => absurd hj (Nat.not_lt_zero _))
 rw [twl_zero] at this
 exact this
end
end Go.Proofs.Ytmojlpafpeeelaa.P
end
