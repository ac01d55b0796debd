/- Part 1 of the proof of FlowExact: what it alone needs. -/
import Derived.Test.YtmojlpafpeeelaaCBd
set_option linter.unusedVariables false
set_option linter.unusedSimpArgs false
section
namespace Go.Proofs.Ytmojlpafpeeelaa.P
open Go.RowKit Go.Proofs.YtmojlpafpeeelaaW.PrintWords Go.Proofs.YtmojlpafpeeelaaW.PrintLast Go.Proofs.YtmojlpafpeeelaaW.PrintMore
attribute [local go_sem] max2_int min2_int max_two min_two max_three min_three max_four min_four
set_option linter.unusedVariables false
set_option linter.unusedSimpArgs false
mutual
def cohousinglaw28_FlowExact.j0 : Nat → List (S44) → List (S39) → Int → Int → Bool → Bool → Option (Bool)
 | 0, _, _, _, _, _, _ => none
 | k + 1, x0, x1, x2, x3, x9, x32 => if x32 = true then (some x9) else ((flow_Bounds.f x0 x1).bind fun bt358 => (if bt358.2 = 0 then (if (bt358.1.length : Int) = (x0.length : Int) then (if 0 ≤ x2 then (if x2 < (bt358.1.length : Int) then (cohousinglaw28_FlowExact.j1 k x0 x1 x2 x3 x9 bt358.1 (decide (((rd_T39 bt358.1 x2).f0) > ((rd_T39 bt358.1 x2).f1)))) else (none)) else (none)) else (cohousinglaw28_FlowExact.j1 k x0 x1 x2 x3 x9 bt358.1 true)) else ((flow_State.f x0 x1 x2 x3).bind fun bt362 => (if x9 = true then (if bt358.2 = 30 then (if bt362.2 = 30 then (some ((bt362.1.length : Int) == 0)) else (some false)) else (some false)) else (some false)))))
def cohousinglaw28_FlowExact.j1 : Nat → List (S44) → List (S39) → Int → Int → Bool → List (S39) → Bool → Option (Bool)
 | 0, _, _, _, _, _, _, _ => none
 | k + 1, x0, x1, x2, x3, x9, x10, x81 => if x81 = true then (some false) else (if 0 ≤ x2 then (if x2 < (x10.length : Int) then ((some (([x3, (rd_T39 x10 x2).f0, (rd_T39 x10 x2).f1, wrap64 (((rd_T39 x10 x2).f0) - 1), wrap64 (((rd_T39 x10 x2).f1) + 1)] : List Int) : List Int)).bind fun y372 => (cohousinglaw28_FlowExact.l0 k x0 x1 x2 x9 x10 y372 (y372.length : Int) 0)) else (none)) else (none))
def cohousinglaw28_FlowExact.l0 : Nat → List (S44) → List (S39) → Int → Bool → List (S39) → List Int → Int → Int → Option (Bool)
 | 0, _, _, _, _, _, _, _, _ => none
 | k + 1, x0, x1, x2, x9, x10, x105, x106, x107 => if x107 < x106 then (if 0 ≤ x107 then (if x107 < (x105.length : Int) then ((flow_State.f x0 x1 x2 (rd x105 x107)).bind fun bt376 => (if 0 ≤ x2 then (if x2 < (x10.length : Int) then (if (rd x105 x107) < ((rd_T39 x10 x2).f0) then (cohousinglaw28_FlowExact.j3 k x0 x1 x2 x9 x10 (rd x105 x107) bt376.1 bt376.2 x105 x106 x107 true) else (cohousinglaw28_FlowExact.j3 k x0 x1 x2 x9 x10 (rd x105 x107) bt376.1 bt376.2 x105 x106 x107 (decide ((rd x105 x107) > ((rd_T39 x10 x2).f1))))) else (none)) else (none))) else (none)) else (none)) else (some x9)
def cohousinglaw28_FlowExact.j3 : Nat → List (S44) → List (S39) → Int → Bool → List (S39) → Int → List Int → Int → List Int → Int → Int → Bool → Option (Bool)
 | 0, _, _, _, _, _, _, _, _, _, _, _, _ => none
 | k + 1, x0, x1, x2, x9, x10, x15, x16, x17, x105, x106, x107, x134 => if x134 = true then (if x9 = true then (if x17 = 30 then (cohousinglaw28_FlowExact.l0 k x0 x1 x2 ((x16.length : Int) == 0) x10 x105 x106 (wrap64 (x107 + 1))) else (cohousinglaw28_FlowExact.l0 k x0 x1 x2 false x10 x105 x106 (wrap64 (x107 + 1)))) else (cohousinglaw28_FlowExact.l0 k x0 x1 x2 false x10 x105 x106 (wrap64 (x107 + 1)))) else (if x17 = 0 then (if (x16.length : Int) = (x0.length : Int) then (if 0 ≤ x2 then (if x2 < (x16.length : Int) then (if (rd x16 x2) = x15 then ((cohousinglaw28_consistent.f x0 x1 x16).bind fun t383 => (if t383 = true then (cohousinglaw28_FlowExact.l0 k x0 x1 x2 x9 x10 x105 x106 (wrap64 (x107 + 1))) else (some false))) else (some false)) else (none)) else (none)) else (some false)) else (some false))
end
def cohousinglaw28_FlowExact.f (k : Nat) (l0 : List (S44)) (l1 : List (S39)) (a2 : Int) (a3 : Int) : Option (Bool) := (cohousinglaw28_head.f k).bind fun t356 => ((cohousinglaw28_right.f l0 l1).bind fun t357 => (if t357 = true then (if a2 < 0 then (cohousinglaw28_FlowExact.j0 k l0 l1 a2 a3 t356 true) else (cohousinglaw28_FlowExact.j0 k l0 l1 a2 a3 t356 (decide (a2 ≥ (l0.length : Int))))) else (cohousinglaw28_FlowExact.j0 k l0 l1 a2 a3 t356 true)))
def cohousinglaw28_FlowExact.T8 : Bool × List (List Nat × List Nat) := (true, [([], []), ([0], [0]), ([], []), ([2], [2]), ([1, 3], [1, 3]), ([4], [4]), ([5], [5]), ([5], [5]), ([6, 7, 5], [5, 6, 7]), ([8, 5], [5, 8]), ([9, 5], [5, 9]), ([5], [5]), ([5], [5]), ([11, 12, 5], [5, 11, 12]), ([13, 5], [5, 13]), ([14, 5], [5, 14]), ([10, 15, 5], [5, 10, 15]), ([5, 16], [5, 16])])
def cohousinglaw28_FlowExact.B8 : List Nat := [0, 1, 0, 4, 15, 31, 63, 63, 255, 511, 1023, 63, 63, 6207, 14399, 30783, 65535, 131071]
theorem cohousinglaw28_FlowExact.tab8 : rtab .any (opsOf Try.f4 8) = cohousinglaw28_FlowExact.T8 := by kernel_rfl
theorem cohousinglaw28_FlowExact.bits8 : waitsOk cohousinglaw28_FlowExact.T8.2 cohousinglaw28_FlowExact.B8 = true := by kernel_rfl
def cohousinglaw28_FlowExact.T10 : Bool × List (List Nat × List Nat) := (true, [([], []), ([], []), ([], []), ([1, 2], [1, 2]), ([3], [3]), ([4], [4]), ([], []), ([], []), ([6, 7], [6, 7]), ([8], [8]), ([9], [9]), ([], []), ([], []), ([11, 12], [11, 12]), ([13], [13]), ([14], [14]), ([15], [15]), ([], []), ([], []), ([17, 18], [17, 18]), ([19], [19]), ([20], [20]), ([21], [21]), ([0, 5, 10, 16, 22], [0, 5, 10, 16, 22]), ([23], [23]), ([], [])])
def cohousinglaw28_FlowExact.B10 : List Nat := [0, 0, 0, 6, 14, 30, 0, 0, 192, 448, 960, 0, 0, 6144, 14336, 30720, 63488, 0, 0, 393216, 917504, 1966080, 4063232, 8388607, 16777215, 0]
theorem cohousinglaw28_FlowExact.tab10 : rtab .any (opsOf Try.f4 10) = cohousinglaw28_FlowExact.T10 := by kernel_rfl
theorem cohousinglaw28_FlowExact.bits10 : waitsOk cohousinglaw28_FlowExact.T10.2 cohousinglaw28_FlowExact.B10 = true := by kernel_rfl
set_option maxHeartbeats 8000000 in
set_option maxRecDepth 100000 in
theorem cohousinglaw28_FlowExact.calls (k : Nat) (A0 : Option Addr) (c0 : Nat) (l0 : List (S44)) (A1 : Option Addr) (c1 : Nat) (l1 : List (S39)) (a2 : Int) (a3 : Int) (r : Bool) (w : World) (hr0 : Kd.C k44 w A0 l0.length l0) (hc0 : l0.length ≤ c0) (hr1 : Kd.C k39 w A1 l1.length l1) (hc1 : l1.length ≤ c1) (h : cohousinglaw28_FlowExact.f k l0 l1 a2 a3 = some r) :
  Calls Try.prog 4 #[.slice A0 l0.length c0, .slice A1 l1.length c1, .int .i64 a2, .int .i64 a3] w fun e w' => e = .returned (.bool r) ∧ Below w.heap.size w w' := by
 have HR0 := Aside0.mk hr0
 have HC0 := Aside0.mk hc0
 clear hr0 hc0
 have HR1 := Aside0.mk hr1
 have HC1 := Aside0.mk hc1
 clear hr1 hc1
 have HB := Aside0.mk (Below.refl w.heap.size w)
 have H : ((cohousinglaw28_head.f k).bind fun t356 => ((cohousinglaw28_right.f l0 l1).bind fun t357 => (if t357 = true then (if a2 < 0 then (cohousinglaw28_FlowExact.j0 k l0 l1 a2 a3 t356 true) else (cohousinglaw28_FlowExact.j0 k l0 l1 a2 a3 t356 (decide (a2 ≥ (l0.length : Int))))) else (cohousinglaw28_FlowExact.j0 k l0 l1 a2 a3 t356 true)))) = some r := h
 clear h
 replace H := Option.bind_eq_some_iff.mp H
 obtain ⟨t356, A50, H⟩ := H
 replace H : ((cohousinglaw28_right.f l0 l1).bind fun t357 => (if t357 = true then (if a2 < 0 then (cohousinglaw28_FlowExact.j0 k l0 l1 a2 a3 t356 true) else (cohousinglaw28_FlowExact.j0 k l0 l1 a2 a3 t356 (decide (a2 ≥ (l0.length : Int))))) else (cohousinglaw28_FlowExact.j0 k l0 l1 a2 a3 t356 true))) = some r := H
 have A5 := Aside0.mk A50
 clear A50
 have HC6 := Aside0.mk H
 clear H
 go_enter Try.func4, Try.ntmps4
 go_upto_region 2 with (first | ((with_reducible refine gate_callee (f := 10) rfl ?_); refine goesL_ (some 18) rfl rfl Try.func10 (by kernel_rfl) rfl #[] rfl (by (try simp only [List.map_toArray, List.map_cons, List.map_nil]); first | done | rfl | (simp only [List.length_drop, List.length_take]; rfl)) ?_; (with_reducible refine (cohousinglaw28_head.calls k  t356 _ A5.out).mono ?_); rintro e w7 ⟨rfl, hb⟩; refine ⟨_, rfl, ?_⟩; have n0_ := Aside0.mk (below_step (by repeat (first | (with_reducible first | exact HB.out | apply below_alloc | apply pw_below_drewN | apply below_drew1) | exact HB.out)) hb); clear HB; have HB := n0_; clear n0_; (try clear hb); (try clear hb2); (try clear hk); (try clear hi)))
 (try simp only [Act.put, sI_, s0_, sS_])
 go_cut [32] (fun v32 wc => ∃ (kq : Nat) (x32_5 : Bool), v32 = .bool x32_5 ∧ Aside0 (cohousinglaw28_FlowExact.j0 kq l0 l1 a2 a3 t356 x32_5 = some r) ∧ Aside0 (kq ≤ k) ∧ Aside0 (Below w.heap.size w wc))
 case first =>
  have H := HC6.out
  clear HC6
  replace H := Option.bind_eq_some_iff.mp H
  obtain ⟨t357, A80, H⟩ := H
  replace H : (if t357 = true then (if a2 < 0 then (cohousinglaw28_FlowExact.j0 k l0 l1 a2 a3 t356 true) else (cohousinglaw28_FlowExact.j0 k l0 l1 a2 a3 t356 (decide (a2 ≥ (l0.length : Int))))) else (cohousinglaw28_FlowExact.j0 k l0 l1 a2 a3 t356 true)) = some r := H
  have A8 := Aside0.mk A80
  clear A80
  by_cases c9 : t357 = true
  ·subst c9
   have H1 : (if a2 < 0 then (cohousinglaw28_FlowExact.j0 k l0 l1 a2 a3 t356 true) else (cohousinglaw28_FlowExact.j0 k l0 l1 a2 a3 t356 (decide (a2 ≥ (l0.length : Int))))) = some r := by rw [if_pos rfl] at H; exact H
   clear H
   have H := H1
   clear H1
   by_cases c10 : a2 < 0
   ·rw [if_pos c10] at H
    have c10b0 : decide (a2 < 0) = true := decide_eq_true c10
    clear c10
    (first | rw [c10b0] | (simp only [i64_w, i32_w]; rw [c10b0]) | skip)
    have H' := Aside0.mk H
    clear H
    go_wp2_with (first | ((with_reducible refine gate_callee (f := 21) rfl ?_); refine goesL_ (some 21) rfl rfl Try.func21 (by kernel_rfl) rfl #[.slice A0 l0.length c0, .slice A1 l1.length c1] rfl (by (try simp only [List.map_toArray, List.map_cons, List.map_nil]); first | done | rfl | (simp only [List.length_drop, List.length_take]; rfl)) ?_; (with_reducible refine (cohousinglaw28_right.calls _ _ l0 _ _ l1 true _ ?side1 ?side2 ?side3 ?side4 A8.out).mono ?_); (case side1 => repeat (first | exact (Kd.C_below HR0.out HB.out) | (with_reducible refine Kd.C_alloc ?_ _) | (with_reducible refine Kd.C_drewN ?_ _) | (with_reducible refine Kd.C_drew ?_))); (case side2 => exact HC0.out); (case side3 => repeat (first | exact (Kd.C_below HR1.out HB.out) | (with_reducible refine Kd.C_alloc ?_ _) | (with_reducible refine Kd.C_drewN ?_ _) | (with_reducible refine Kd.C_drew ?_))); (case side4 => exact HC1.out); rintro e w11 ⟨rfl, hb⟩; refine ⟨_, rfl, ?_⟩; have n0_ := Aside0.mk (below_step (by repeat (first | (with_reducible first | exact HB.out | apply below_alloc | apply pw_below_drewN | apply below_drew1) | exact HB.out)) hb); clear HB; have HB := n0_; clear n0_; (try clear hb); (try clear hb2); (try clear hk); (try clear hi)))
    go_meet
    case rel => exact ⟨_, (true), (by first | rfl | (simp; done) | (simp [*]; done)), H', ⟨by first | omega | exact Nat.le_refl _⟩, ⟨by repeat (first | (with_reducible first | exact HB.out | apply below_alloc | apply pw_below_drewN | apply below_drew1) | exact HB.out)⟩⟩
   ·rw [if_neg c10] at H
    have c10b0 : decide (a2 < 0) = false := decide_eq_false c10
    clear c10
    (first | rw [c10b0] | (simp only [i64_w, i32_w]; rw [c10b0]) | skip)
    have H' := Aside0.mk H
    clear H
    go_wp2_with (first | ((with_reducible refine gate_callee (f := 21) rfl ?_); refine goesL_ (some 21) rfl rfl Try.func21 (by kernel_rfl) rfl #[.slice A0 l0.length c0, .slice A1 l1.length c1] rfl (by (try simp only [List.map_toArray, List.map_cons, List.map_nil]); first | done | rfl | (simp only [List.length_drop, List.length_take]; rfl)) ?_; (with_reducible refine (cohousinglaw28_right.calls _ _ l0 _ _ l1 true _ ?side1 ?side2 ?side3 ?side4 A8.out).mono ?_); (case side1 => repeat (first | exact (Kd.C_below HR0.out HB.out) | (with_reducible refine Kd.C_alloc ?_ _) | (with_reducible refine Kd.C_drewN ?_ _) | (with_reducible refine Kd.C_drew ?_))); (case side2 => exact HC0.out); (case side3 => repeat (first | exact (Kd.C_below HR1.out HB.out) | (with_reducible refine Kd.C_alloc ?_ _) | (with_reducible refine Kd.C_drewN ?_ _) | (with_reducible refine Kd.C_drew ?_))); (case side4 => exact HC1.out); rintro e w12 ⟨rfl, hb⟩; refine ⟨_, rfl, ?_⟩; have n0_ := Aside0.mk (below_step (by repeat (first | (with_reducible first | exact HB.out | apply below_alloc | apply pw_below_drewN | apply below_drew1) | exact HB.out)) hb); clear HB; have HB := n0_; clear n0_; (try clear hb); (try clear hb2); (try clear hk); (try clear hi)))
    go_meet
    case rel => exact ⟨_, (decide (a2 ≥ (l0.length : Int))), (by first | rfl | (simp; done) | (simp [*]; done)), H', ⟨by first | omega | exact Nat.le_refl _⟩, ⟨by repeat (first | (with_reducible first | exact HB.out | apply below_alloc | apply pw_below_drewN | apply below_drew1) | exact HB.out)⟩⟩
  ·replace c9 := Bool.eq_false_iff.mpr c9
   subst c9
   have H1 : (cohousinglaw28_FlowExact.j0 k l0 l1 a2 a3 t356 true) = some r := by rw [if_neg (show ¬ (false = true) by decide)] at H; exact H
   clear H
   have H := H1
   clear H1
   have H' := Aside0.mk H
   clear H
   go_wp2_with (first | ((with_reducible refine gate_callee (f := 21) rfl ?_); refine goesL_ (some 21) rfl rfl Try.func21 (by kernel_rfl) rfl #[.slice A0 l0.length c0, .slice A1 l1.length c1] rfl (by (try simp only [List.map_toArray, List.map_cons, List.map_nil]); first | done | rfl | (simp only [List.length_drop, List.length_take]; rfl)) ?_; (with_reducible refine (cohousinglaw28_right.calls _ _ l0 _ _ l1 false _ ?side1 ?side2 ?side3 ?side4 A8.out).mono ?_); (case side1 => repeat (first | exact (Kd.C_below HR0.out HB.out) | (with_reducible refine Kd.C_alloc ?_ _) | (with_reducible refine Kd.C_drewN ?_ _) | (with_reducible refine Kd.C_drew ?_))); (case side2 => exact HC0.out); (case side3 => repeat (first | exact (Kd.C_below HR1.out HB.out) | (with_reducible refine Kd.C_alloc ?_ _) | (with_reducible refine Kd.C_drewN ?_ _) | (with_reducible refine Kd.C_drew ?_))); (case side4 => exact HC1.out); rintro e w13 ⟨rfl, hb⟩; refine ⟨_, rfl, ?_⟩; have n0_ := Aside0.mk (below_step (by repeat (first | (with_reducible first | exact HB.out | apply below_alloc | apply pw_below_drewN | apply below_drew1) | exact HB.out)) hb); clear HB; have HB := n0_; clear n0_; (try clear hb); (try clear hb2); (try clear hk); (try clear hi)))
   go_meet
   case rel => exact ⟨_, (true), (by first | rfl | (simp; done) | (simp [*]; done)), H', ⟨by first | omega | exact Nat.le_refl _⟩, ⟨by repeat (first | (with_reducible first | exact HB.out | apply below_alloc | apply pw_below_drewN | apply below_drew1) | exact HB.out)⟩⟩
 case rest =>
  clear HC6
  try clear c1
  try clear c2
  try clear p2
  try clear c4
  try clear c9
  try clear c10
  try clear c10b0
  obtain ⟨kq, x32_5, rfl, HA, HJ5, HB⟩ := hcut
  cases kq with
  | zero => exact absurd HA.out (by simp [cohousinglaw28_FlowExact.j0])
  | succ kj5 =>
   have H := HA.out
   clear HA
   simp only [cohousinglaw28_FlowExact.j0] at H
   by_cases c14 : x32_5 = true
   ·subst c14
    have H1 : (some t356) = some r := by rw [if_pos rfl] at H; exact H
    clear H
    have H := H1
    clear H1
    obtain rfl := Option.some.inj H
    go_wp2
    go_ret
    exact ⟨by first | rfl | (simp [errW_none, errW_some] <;> rfl) | (simp [*, errW_none, errW_some] <;> rfl), by repeat (first | (with_reducible first | exact HB.out | apply below_alloc | apply pw_below_drewN | apply below_drew1) | exact HB.out)⟩
   ·replace c14 := Bool.eq_false_iff.mpr c14
    subst c14
    have H1 : ((flow_Bounds.f l0 l1).bind fun bt358 => (if bt358.2 = 0 then (if (bt358.1.length : Int) = (l0.length : Int) then (if 0 ≤ a2 then (if a2 < (bt358.1.length : Int) then (cohousinglaw28_FlowExact.j1 kj5 l0 l1 a2 a3 t356 bt358.1 (decide (((rd_T39 bt358.1 a2).f0) > ((rd_T39 bt358.1 a2).f1)))) else (none)) else (none)) else (cohousinglaw28_FlowExact.j1 kj5 l0 l1 a2 a3 t356 bt358.1 true)) else ((flow_State.f l0 l1 a2 a3).bind fun bt362 => (if t356 = true then (if bt358.2 = 30 then (if bt362.2 = 30 then (some ((bt362.1.length : Int) == 0)) else (some false)) else (some false)) else (some false))))) = some r := by rw [if_neg (show ¬ (false = true) by decide)] at H; exact H
    clear H
    have H := H1
    clear H1
    replace H := Option.bind_eq_some_iff.mp H
    obtain ⟨⟨t358, t359⟩, A150, H⟩ := H
    replace H : (if t359 = 0 then (if (t358.length : Int) = (l0.length : Int) then (if 0 ≤ a2 then (if a2 < (t358.length : Int) then (cohousinglaw28_FlowExact.j1 kj5 l0 l1 a2 a3 t356 t358 (decide (((rd_T39 t358 a2).f0) > ((rd_T39 t358 a2).f1)))) else (none)) else (none)) else (cohousinglaw28_FlowExact.j1 kj5 l0 l1 a2 a3 t356 t358 true)) else ((flow_State.f l0 l1 a2 a3).bind fun bt362 => (if t356 = true then (if t359 = 30 then (if bt362.2 = 30 then (some ((bt362.1.length : Int) == 0)) else (some false)) else (some false)) else (some false)))) = some r := H
    have A15 := Aside0.mk A150
    clear A150
    by_cases c16 : t359 = 0
    ·rw [if_pos c16] at H
     have c16b0 : (t359 == 0) = true := beq_iff_eq.mpr c16
     have c16b1 : (t359 != 0) = false := bne_eq_false_iff_eq.mpr c16
     clear c16
     have HC17 := Aside0.mk H
     clear H
     go_upto_region 8 with (first | ((with_reducible refine gate_callee (f := 11) rfl ?_); refine goesL_ (some 37) rfl rfl Try.func11 (by kernel_rfl) rfl #[.slice A0 l0.length c0, .slice A1 l1.length c1] rfl (by (try simp only [List.map_toArray, List.map_cons, List.map_nil]); first | done | rfl | (simp only [List.length_drop, List.length_take]; rfl)) ?_; (with_reducible refine (flow_Bounds.calls _ _ l0 _ _ l1 t358 t359 _ ?side1 ?side2 ?side3 ?side4 A15.out).mono ?_); (case side1 => repeat (first | exact (Kd.C_below HR0.out HB.out) | (with_reducible refine Kd.C_alloc ?_ _) | (with_reducible refine Kd.C_drewN ?_ _) | (with_reducible refine Kd.C_drew ?_))); (case side2 => exact HC0.out); (case side3 => repeat (first | exact (Kd.C_below HR1.out HB.out) | (with_reducible refine Kd.C_alloc ?_ _) | (with_reducible refine Kd.C_drewN ?_ _) | (with_reducible refine Kd.C_drew ?_))); (case side4 => exact HC1.out); rintro e w18 ⟨v360, rfl, ho0, hb⟩; refine ⟨_, rfl, ?_⟩; have n0_ := Aside0.mk (Kd.R_lower ho0 (below_size (by repeat (first | (with_reducible first | exact HB.out | apply below_alloc | apply pw_below_drewN | apply below_drew1) | exact HB.out)))); have n1_ := Aside0.mk (below_step (by repeat (first | (with_reducible first | exact HB.out | apply below_alloc | apply pw_below_drewN | apply below_drew1) | exact HB.out)) hb); clear HB; have HO361 := n0_; have HB := n1_; clear n0_ n1_; (try clear hb); (try clear hb2); (try clear hk); (try clear hi); (try clear ho0)))
     (try simp only [Act.put, sI_, s0_, sS_])
     go_cut [81] (fun v81 wc => ∃ (kq : Nat) (x81_16 : Bool), v81 = .bool x81_16 ∧ Aside0 (cohousinglaw28_FlowExact.j1 kq l0 l1 a2 a3 t356 t358 x81_16 = some r) ∧ Aside0 (kq ≤ kj5) ∧ Aside0 (Kd.R k39 39 wc w.heap.size (fun _ => True) v360 t358) ∧ Aside0 (Below w.heap.size w wc))
     case first =>
      have H := HC17.out
      clear HC17
      by_cases c19 : (t358.length : Int) = (l0.length : Int)
      ·rw [if_pos c19] at H
       have c19b0 : ((t358.length : Int) == (l0.length : Int)) = true := beq_iff_eq.mpr c19
       have c19b1 : ((t358.length : Int) != (l0.length : Int)) = false := bne_eq_false_iff_eq.mpr c19
       have c19b2 : (t358.length == l0.length) = true := by first | simpa using c19 | (simp at c19 ⊢; omega)
       clear c19
       (first | rw [c19b0] | (simp only [i64_w, i32_w]; rw [c19b0]) | skip)
       by_cases c20 : 0 ≤ a2
       ·rw [if_pos c20] at H
        have c20b0 : decide (0 ≤ a2) = true := decide_eq_true c20
        clear c20
        by_cases c21 : a2 < (t358.length : Int)
        ·rw [if_pos c21] at H
         have c21b0 : decide (a2 < (t358.length : Int)) = true := decide_eq_true c21
         clear c21
         have H' := Aside0.mk H
         clear H
         try go_wp2
         have n0_ := Aside0.mk (Kd.R_drew HO361.out)
         have n1_ := Aside0.mk (below_drew1 HB.out)
         clear HO361
         clear HB
         have HO361 := n0_
         have HB := n1_
         clear n0_ n1_
         obtain ⟨Ao23, co23, eo23⟩ := Kd.R_slice HO361.out
         (first | subst eo23 | (injection eo23 with f1_ f2_ f3_; have f4_ := f1_.symm; have f5_ := f3_.symm; clear f1_ f2_ f3_; subst f4_; subst f5_))
         have p366 : 0 ≤ (a2 : Int) := of_decide_eq_true (by first | (with_reducible assumption) | assumption)
         have q366 : a2 < (t358.length : Int) := of_decide_eq_true (by first | (with_reducible assumption) | assumption)
         obtain ⟨ad366, e366, hx366_0, hx366_1⟩ := at_T39 (Kd.R_reads' HO361.out).2.2 a2 p366 q366
         cases e366
         replace p366 := eq_true p366
         replace q366 := eq_true q366
         have p367 : 0 ≤ (a2 : Int) := of_decide_eq_true (by first | (with_reducible assumption) | assumption)
         have q367 : a2 < (t358.length : Int) := of_decide_eq_true (by first | (with_reducible assumption) | assumption)
         obtain ⟨ad367, e367, hx367_0, hx367_1⟩ := at_T39 (Kd.R_reads' HO361.out).2.2 a2 p367 q367
         obtain rfl : ad366 = ad367 := (by injection e367)
         replace p367 := eq_true p367
         replace q367 := eq_true q367
         refine start_ (n := 18) (S := fun w' => w'.cell? (ad366.add ((a2).toNat * 2)) = some (.int .i64 ((rd_T39 t358 a2).f0)) ∧ w'.cell? ⟨(ad366.add ((a2).toNat * 2)).block, (ad366.add ((a2).toNat * 2)).off + 1, none⟩ = some (.int .i64 ((rd_T39 t358 a2).f1)) ∧ w'.cell? (ad366.add ((a2).toNat * 2)) = some (.int .i64 ((rd_T39 t358 a2).f0)) ∧ w'.cell? ⟨(ad366.add ((a2).toNat * 2)).block, (ad366.add ((a2).toNat * 2)).off + 1, none⟩ = some (.int .i64 ((rd_T39 t358 a2).f1))) (ds := []) #[n_, n_, n_, n_, n_, n_, n_, n_, n_, n_, n_, n_, n_, n_, n_, n_, n_, n_] (by kernel_rfl) rfl rfl ⟨hx366_0, hx366_1, hx367_0, hx367_1⟩ (fun hHeld => ?_); refine with_tabW cohousinglaw28_FlowExact.tab8 cohousinglaw28_FlowExact.bits8 (fun HT_ HW_ => ?_)
         generalize w18.drew = w22 at HO361 HB hx366_0 hx366_1 hx367_0 hx367_1 hHeld ⊢
         refine pure_ (i := 0) (N := some 64) (v := ?_) (a' := ?_) #[y_, n_, n_, n_, n_, n_, n_, n_, n_, n_, n_, n_, n_, n_, n_, n_, n_, n_] rfl rfl (any_of HT_.out (by kernel_rfl)) (fun _ _ _ h => h) (Or.inl ⟨by rfl, ?_⟩) ?_ ?_
         rotate_left
         ·intro w'
          go_simp
          with_reducible rfl
         rotate_left
         ·simp only [Act.put, sI_, s0_, sS_, i64_w, i32_w]
          rfl
         refine pure_ (i := 1) (N := some 65) (v := ?_) (a' := ?_) #[y_, y_, n_, n_, n_, n_, n_, n_, n_, n_, n_, n_, n_, n_, n_, n_, n_, n_] rfl rfl (any_of HT_.out (by kernel_rfl)) (fun _ _ _ h => h) (Or.inl ⟨by rfl, ?_⟩) ?_ ?_
         rotate_left
         ·intro w'
          go_simp
          with_reducible rfl
         rotate_left
         ·simp only [Act.put, sI_, s0_, sS_, i64_w, i32_w]
          rfl
         refine pure_ (i := 2) (N := some 66) (v := ?_) (a' := ?_) #[y_, y_, y_, n_, n_, n_, n_, n_, n_, n_, n_, n_, n_, n_, n_, n_, n_, n_] rfl rfl (any_of HT_.out (by kernel_rfl)) (fun _ _ _ h => h) (Or.inl ⟨by rfl, ?_⟩) ?_ ?_
         rotate_left
         ·intro w'
          go_simp
          with_reducible rfl
         rotate_left
         ·simp only [Act.put, sI_, s0_, sS_, i64_w, i32_w]
          rfl
         refine pure_ (i := 3) (N := some 67) (v := ?_) (a' := ?_) #[y_, y_, y_, y_, n_, n_, n_, n_, n_, n_, n_, n_, n_, n_, n_, n_, n_, n_] rfl rfl (any_of HT_.out (by kernel_rfl)) (fun _ _ _ h => h) (Or.inl ⟨by rfl, ?_⟩) ?_ ?_
         rotate_left
         ·intro w'
          go_simp
          with_reducible rfl
         rotate_left
         ·simp only [Act.put, sI_, s0_, sS_, i64_w, i32_w]
          rfl
         refine pure_ (i := 4) (N := some 68) (v := ?_) (a' := ?_) #[y_, y_, y_, y_, y_, n_, n_, n_, n_, n_, n_, n_, n_, n_, n_, n_, n_, n_] rfl rfl (any_of HT_.out (by kernel_rfl)) (fun _ _ _ h => h) (Or.inl ⟨by rfl, ?_⟩) ?_ ?_
         rotate_left
         ·intro w'
          go_simp
          with_reducible rfl
         rotate_left
         ·simp only [Act.put, sI_, s0_, sS_, i64_w, i32_w]
          rfl
         refine pure_ (i := 5) (N := some 69) (v := ?_) (a' := ?_) #[y_, y_, y_, y_, y_, y_, n_, n_, n_, n_, n_, n_, n_, n_, n_, n_, n_, n_] rfl rfl (any_of HT_.out (by kernel_rfl)) (fun _ _ _ h => h) (Or.inl ⟨by rfl, ?_⟩) ?_ ?_
         rotate_left
         ·intro w'
          go_simp
          with_reducible rfl
         rotate_left
         ·simp only [Act.put, sI_, s0_, sS_, i64_w, i32_w]
          rfl
         refine pure_ (i := 6) (N := some 70) (v := ?_) (a' := ?_) #[y_, y_, y_, y_, y_, y_, y_, n_, n_, n_, n_, n_, n_, n_, n_, n_, n_, n_] rfl rfl (any_of HT_.out (by kernel_rfl)) (fun _ _ _ h => h) (Or.inl ⟨by rfl, ?_⟩) ?_ ?_
         rotate_left
         ·intro w'
          go_simp
          with_reducible rfl
         rotate_left
         ·simp only [Act.put, sI_, s0_, sS_, i64_w, i32_w]
          rfl
         refine pure_ (i := 7) (N := some 71) (v := ?_) (a' := ?_) #[y_, y_, y_, y_, y_, y_, y_, y_, n_, n_, n_, n_, n_, n_, n_, n_, n_, n_] rfl rfl (any_of HT_.out (by kernel_rfl)) (fun _ _ _ h => h) (Or.inl ⟨by rfl, ?_⟩) ?_ ?_
         rotate_left
         ·intro w'
          go_simp
          with_reducible rfl
         rotate_left
         ·simp only [Act.put, sI_, s0_, sS_, i64_w, i32_w]
          rfl
         refine pure_ (i := 8) (N := some 72) (v := ?_) (a' := ?_) #[y_, y_, y_, y_, y_, y_, y_, y_, y_, n_, n_, n_, n_, n_, n_, n_, n_, n_] rfl rfl (any_of HT_.out (by kernel_rfl)) (fun _ _ _ h => h) (Or.inl ⟨by rfl, ?_⟩) ?_ ?_
         rotate_left
         ·intro w'
          go_simp
          with_reducible rfl
         rotate_left
         ·simp only [Act.put, sI_, s0_, sS_, i64_w, i32_w]
          rfl
         refine pure_ (i := 9) (N := some 73) (v := ?_) (a' := ?_) #[y_, y_, y_, y_, y_, y_, y_, y_, y_, y_, n_, n_, n_, n_, n_, n_, n_, n_] rfl rfl (any_of HT_.out (by kernel_rfl)) (fun _ _ _ h => h) (Or.inl ⟨by rfl, ?_⟩) ?_ ?_
         rotate_left
         ·intro w'
          go_simp
          with_reducible rfl
         rotate_left
         ·simp only [Act.put, sI_, s0_, sS_, i64_w, i32_w]
          rfl
         refine pure_ (i := 11) (N := some 75) (v := ?_) (a' := ?_) #[y_, y_, y_, y_, y_, y_, y_, y_, y_, y_, n_, y_, n_, n_, n_, n_, n_, n_] rfl rfl (any_of HT_.out (by kernel_rfl)) (fun _ _ _ h => h) (Or.inl ⟨by rfl, ?_⟩) ?_ ?_
         rotate_left
         ·intro w'
          go_simp
          with_reducible rfl
         rotate_left
         ·simp only [Act.put, sI_, s0_, sS_, i64_w, i32_w]
          rfl
         refine pure_ (i := 12) (N := some 76) (v := ?_) (a' := ?_) #[y_, y_, y_, y_, y_, y_, y_, y_, y_, y_, n_, y_, y_, n_, n_, n_, n_, n_] rfl rfl (any_of HT_.out (by kernel_rfl)) (fun _ _ _ h => h) (Or.inl ⟨by rfl, ?_⟩) ?_ ?_
         rotate_left
         ·intro w'
          go_simp
          with_reducible rfl
         rotate_left
         ·simp only [Act.put, sI_, s0_, sS_, i64_w, i32_w]
          rfl
         refine pure_ (i := 13) (N := some 77) (v := ?_) (a' := ?_) #[y_, y_, y_, y_, y_, y_, y_, y_, y_, y_, n_, y_, y_, y_, n_, n_, n_, n_] rfl rfl (any_of HT_.out (by kernel_rfl)) (fun _ _ _ h => h) (Or.inl ⟨by rfl, ?_⟩) ?_ ?_
         rotate_left
         ·intro w'
          go_simp
          with_reducible rfl
         rotate_left
         ·simp only [Act.put, sI_, s0_, sS_, i64_w, i32_w]
          rfl
         refine pure_ (i := 14) (N := some 78) (v := ?_) (a' := ?_) #[y_, y_, y_, y_, y_, y_, y_, y_, y_, y_, n_, y_, y_, y_, y_, n_, n_, n_] rfl rfl (any_of HT_.out (by kernel_rfl)) (fun _ _ _ h => h) (Or.inl ⟨by rfl, ?_⟩) ?_ ?_
         rotate_left
         ·intro w'
          go_simp
          with_reducible rfl
         rotate_left
         ·simp only [Act.put, sI_, s0_, sS_, i64_w, i32_w]
          rfl
         refine take_ (i := 10) (N := some 74) (v := ?_) (a' := ?_) #[y_, y_, y_, y_, y_, y_, y_, y_, y_, y_, y_, y_, y_, y_, y_, n_, n_, n_] rfl rfl (take_ofW HT_.out HW_.out (by kernel_rfl)) (fun _ _ _ h => h) (Or.inl ⟨by rfl, ?_⟩) hHeld ?_ ?_
         rotate_left
         ·rintro w' ⟨s0, s1, s2, s3⟩
          go_simp
          with_reducible rfl
         rotate_left
         ·simp only [Act.put, sI_, s0_, sS_, i64_w, i32_w]
          rfl
         refine take_ (i := 15) (N := some 79) (v := ?_) (a' := ?_) #[y_, y_, y_, y_, y_, y_, y_, y_, y_, y_, y_, y_, y_, y_, y_, y_, n_, n_] rfl rfl (take_ofW HT_.out HW_.out (by kernel_rfl)) (fun _ _ _ h => h) (Or.inl ⟨by rfl, ?_⟩) hHeld ?_ ?_
         rotate_left
         ·rintro w' ⟨s0, s1, s2, s3⟩
          go_simp
          with_reducible rfl
         rotate_left
         ·simp only [Act.put, sI_, s0_, sS_, i64_w, i32_w]
          rfl
         refine pure_ (i := 16) (N := some 80) (v := ?_) (a' := ?_) #[y_, y_, y_, y_, y_, y_, y_, y_, y_, y_, y_, y_, y_, y_, y_, y_, y_, n_] rfl rfl (any_of HT_.out (by kernel_rfl)) (fun _ _ _ h => h) (Or.inl ⟨by rfl, ?_⟩) ?_ ?_
         rotate_left
         ·intro w'
          go_simp
          with_reducible rfl
         rotate_left
         ·simp only [Act.put, sI_, s0_, sS_, i64_w, i32_w]
          rfl
         refine pure_ (i := 17) (N := some 81) (v := ?_) (a' := ?_) #[y_, y_, y_, y_, y_, y_, y_, y_, y_, y_, y_, y_, y_, y_, y_, y_, y_, y_] rfl rfl (any_of HT_.out (by kernel_rfl)) (fun _ _ _ h => h) (Or.inl ⟨by rfl, ?_⟩) ?_ ?_
         rotate_left
         ·intro w'
          go_simp
          with_reducible rfl
         rotate_left
         ·simp only [Act.put, sI_, s0_, sS_, i64_w, i32_w]
          rfl
         refine done_ (done_of HT_.out (by kernel_rfl)) ?_
         try go_wp2
         go_meet
         case rel => exact ⟨_, (decide (((rd_T39 t358 a2).f0) > ((rd_T39 t358 a2).f1))), (by first | rfl | (simp; done) | (simp [*]; done)), H', ⟨by have := HJ5.out; first | omega | exact Nat.le_refl _⟩, ⟨by (with_reducible repeat (first | apply Kd.R_alloc | apply Kd.R_drewN | apply Kd.R_drew)); exact HO361.out⟩, ⟨by repeat (first | (with_reducible first | exact HB.out | apply below_alloc | apply pw_below_drewN | apply below_drew1) | exact HB.out)⟩⟩
        ·rw [if_neg c21] at H
         exact absurd H (by simp)
       ·rw [if_neg c20] at H
        exact absurd H (by simp)
      ·rw [if_neg c19] at H
       have c19b0 : ((t358.length : Int) == (l0.length : Int)) = false := beq_eq_false_iff_ne.mpr c19
       have c19b1 : ((t358.length : Int) != (l0.length : Int)) = true := bne_iff_ne.mpr c19
       have c19b2 : (t358.length == l0.length) = false := by first | simpa using c19 | (simp at c19 ⊢; omega)
       (first | rw [c19b0] | (simp only [i64_w, i32_w]; rw [c19b0]) | skip)
       have H' := Aside0.mk H
       clear H
       try go_wp2
       have n0_ := Aside0.mk (Kd.R_drew HO361.out)
       have n1_ := Aside0.mk (below_drew1 HB.out)
       clear HO361
       clear HB
       have HO361 := n0_
       have HB := n1_
       clear n0_ n1_
       obtain ⟨Ao25, co25, eo25⟩ := Kd.R_slice HO361.out
       (first | subst eo25 | (injection eo25 with f1_ f2_ f3_; have f4_ := f1_.symm; have f5_ := f3_.symm; clear f1_ f2_ f3_; subst f4_; subst f5_))
       refine start_ (n := 18) (S := fun w' => True) (ds := []) #[n_, n_, n_, n_, n_, n_, n_, n_, n_, n_, n_, n_, n_, n_, n_, n_, n_, n_] (by kernel_rfl) rfl rfl trivial (fun hHeld => ?_); refine with_tabW cohousinglaw28_FlowExact.tab8 cohousinglaw28_FlowExact.bits8 (fun HT_ HW_ => ?_)
       generalize w18.drew = w24 at HO361 HB hHeld ⊢
       refine pure_ (i := 0) (N := some 64) (v := ?_) (a' := ?_) #[y_, n_, n_, n_, n_, n_, n_, n_, n_, n_, n_, n_, n_, n_, n_, n_, n_, n_] rfl rfl (any_of HT_.out (by kernel_rfl)) (fun _ _ _ h => h) (Or.inl ⟨by rfl, ?_⟩) ?_ ?_
       rotate_left
       ·intro w'
        go_simp
        with_reducible rfl
       rotate_left
       ·simp only [Act.put, sI_, s0_, sS_, i64_w, i32_w]
        rfl
       refine pure_ (i := 1) (N := some 65) (v := ?_) (a' := ?_) #[y_, y_, n_, n_, n_, n_, n_, n_, n_, n_, n_, n_, n_, n_, n_, n_, n_, n_] rfl rfl (any_of HT_.out (by kernel_rfl)) (fun _ _ _ h => h) (Or.inl ⟨by rfl, ?_⟩) ?_ ?_
       rotate_left
       ·intro w'
        go_simp
        with_reducible rfl
       rotate_left
       ·simp only [Act.put, sI_, s0_, sS_, i64_w, i32_w]
        rfl
       refine pure_ (i := 2) (N := some 66) (v := ?_) (a' := ?_) #[y_, y_, y_, n_, n_, n_, n_, n_, n_, n_, n_, n_, n_, n_, n_, n_, n_, n_] rfl rfl (any_of HT_.out (by kernel_rfl)) (fun _ _ _ h => h) (Or.inl ⟨by rfl, ?_⟩) ?_ ?_
       rotate_left
       ·intro w'
        go_simp
        with_reducible rfl
       rotate_left
       ·simp only [Act.put, sI_, s0_, sS_, i64_w, i32_w]
        rfl
       refine pure_ (i := 3) (N := some 67) (v := ?_) (a' := ?_) #[y_, y_, y_, y_, n_, n_, n_, n_, n_, n_, n_, n_, n_, n_, n_, n_, n_, n_] rfl rfl (any_of HT_.out (by kernel_rfl)) (fun _ _ _ h => h) (Or.inl ⟨by rfl, ?_⟩) ?_ ?_
       rotate_left
       ·intro w'
        go_simp
        with_reducible rfl
       rotate_left
       ·simp only [Act.put, sI_, s0_, sS_, i64_w, i32_w]
        rfl
       refine pure_ (i := 4) (N := some 68) (v := ?_) (a' := ?_) #[y_, y_, y_, y_, y_, n_, n_, n_, n_, n_, n_, n_, n_, n_, n_, n_, n_, n_] rfl rfl (any_of HT_.out (by kernel_rfl)) (fun _ _ _ h => h) (Or.inl ⟨by rfl, ?_⟩) ?_ ?_
       rotate_left
       ·intro w'
        go_simp
        with_reducible rfl
       rotate_left
       ·simp only [Act.put, sI_, s0_, sS_, i64_w, i32_w]
        rfl
       refine pure_ (i := 5) (N := some 69) (v := ?_) (a' := ?_) #[y_, y_, y_, y_, y_, y_, n_, n_, n_, n_, n_, n_, n_, n_, n_, n_, n_, n_] rfl rfl (any_of HT_.out (by kernel_rfl)) (fun _ _ _ h => h) (Or.inl ⟨by rfl, ?_⟩) ?_ ?_
       rotate_left
       ·intro w'
        go_simp
        with_reducible rfl
       rotate_left
       ·simp only [Act.put, sI_, s0_, sS_, i64_w, i32_w]
        rfl
       refine pure_ (i := 6) (N := some 70) (v := undef) (a' := ?_) #[y_, y_, y_, y_, y_, y_, y_, n_, n_, n_, n_, n_, n_, n_, n_, n_, n_, n_] rfl rfl (any_of HT_.out (by kernel_rfl)) (fun _ _ _ h => h) (Or.inr ⟨by rfl, rfl⟩) ?_ ?_
       rotate_left
       ·simp only [Act.put, sI_, s0_, sS_, i64_w, i32_w]
        rfl
       refine pure_ (i := 7) (N := some 71) (v := undef) (a' := ?_) #[y_, y_, y_, y_, y_, y_, y_, y_, n_, n_, n_, n_, n_, n_, n_, n_, n_, n_] rfl rfl (any_of HT_.out (by kernel_rfl)) (fun _ _ _ h => h) (Or.inr ⟨by rfl, rfl⟩) ?_ ?_
       rotate_left
       ·simp only [Act.put, sI_, s0_, sS_, i64_w, i32_w]
        rfl
       refine pure_ (i := 8) (N := some 72) (v := undef) (a' := ?_) #[y_, y_, y_, y_, y_, y_, y_, y_, y_, n_, n_, n_, n_, n_, n_, n_, n_, n_] rfl rfl (any_of HT_.out (by kernel_rfl)) (fun _ _ _ h => h) (Or.inr ⟨by rfl, rfl⟩) ?_ ?_
       rotate_left
       ·simp only [Act.put, sI_, s0_, sS_, i64_w, i32_w]
        rfl
       refine pure_ (i := 9) (N := some 73) (v := undef) (a' := ?_) #[y_, y_, y_, y_, y_, y_, y_, y_, y_, y_, n_, n_, n_, n_, n_, n_, n_, n_] rfl rfl (any_of HT_.out (by kernel_rfl)) (fun _ _ _ h => h) (Or.inr ⟨by rfl, rfl⟩) ?_ ?_
       rotate_left
       ·simp only [Act.put, sI_, s0_, sS_, i64_w, i32_w]
        rfl
       refine pure_ (i := 10) (N := some 74) (v := undef) (a' := ?_) #[y_, y_, y_, y_, y_, y_, y_, y_, y_, y_, y_, n_, n_, n_, n_, n_, n_, n_] rfl rfl (any_of HT_.out (by kernel_rfl)) (fun _ _ _ h => h) (Or.inr ⟨by rfl, rfl⟩) ?_ ?_
       rotate_left
       ·simp only [Act.put, sI_, s0_, sS_, i64_w, i32_w]
        rfl
       refine pure_ (i := 11) (N := some 75) (v := undef) (a' := ?_) #[y_, y_, y_, y_, y_, y_, y_, y_, y_, y_, y_, y_, n_, n_, n_, n_, n_, n_] rfl rfl (any_of HT_.out (by kernel_rfl)) (fun _ _ _ h => h) (Or.inr ⟨by rfl, rfl⟩) ?_ ?_
       rotate_left
       ·simp only [Act.put, sI_, s0_, sS_, i64_w, i32_w]
        rfl
       refine pure_ (i := 12) (N := some 76) (v := undef) (a' := ?_) #[y_, y_, y_, y_, y_, y_, y_, y_, y_, y_, y_, y_, y_, n_, n_, n_, n_, n_] rfl rfl (any_of HT_.out (by kernel_rfl)) (fun _ _ _ h => h) (Or.inr ⟨by rfl, rfl⟩) ?_ ?_
       rotate_left
       ·simp only [Act.put, sI_, s0_, sS_, i64_w, i32_w]
        rfl
       refine pure_ (i := 13) (N := some 77) (v := undef) (a' := ?_) #[y_, y_, y_, y_, y_, y_, y_, y_, y_, y_, y_, y_, y_, y_, n_, n_, n_, n_] rfl rfl (any_of HT_.out (by kernel_rfl)) (fun _ _ _ h => h) (Or.inr ⟨by rfl, rfl⟩) ?_ ?_
       rotate_left
       ·simp only [Act.put, sI_, s0_, sS_, i64_w, i32_w]
        rfl
       refine pure_ (i := 14) (N := some 78) (v := undef) (a' := ?_) #[y_, y_, y_, y_, y_, y_, y_, y_, y_, y_, y_, y_, y_, y_, y_, n_, n_, n_] rfl rfl (any_of HT_.out (by kernel_rfl)) (fun _ _ _ h => h) (Or.inr ⟨by rfl, rfl⟩) ?_ ?_
       rotate_left
       ·simp only [Act.put, sI_, s0_, sS_, i64_w, i32_w]
        rfl
       refine pure_ (i := 15) (N := some 79) (v := undef) (a' := ?_) #[y_, y_, y_, y_, y_, y_, y_, y_, y_, y_, y_, y_, y_, y_, y_, y_, n_, n_] rfl rfl (any_of HT_.out (by kernel_rfl)) (fun _ _ _ h => h) (Or.inr ⟨by rfl, rfl⟩) ?_ ?_
       rotate_left
       ·simp only [Act.put, sI_, s0_, sS_, i64_w, i32_w]
        rfl
       refine pure_ (i := 16) (N := some 80) (v := undef) (a' := ?_) #[y_, y_, y_, y_, y_, y_, y_, y_, y_, y_, y_, y_, y_, y_, y_, y_, y_, n_] rfl rfl (any_of HT_.out (by kernel_rfl)) (fun _ _ _ h => h) (Or.inr ⟨by rfl, rfl⟩) ?_ ?_
       rotate_left
       ·simp only [Act.put, sI_, s0_, sS_, i64_w, i32_w]
        rfl
       refine pure_ (i := 17) (N := some 81) (v := ?_) (a' := ?_) #[y_, y_, y_, y_, y_, y_, y_, y_, y_, y_, y_, y_, y_, y_, y_, y_, y_, y_] rfl rfl (any_of HT_.out (by kernel_rfl)) (fun _ _ _ h => h) (Or.inl ⟨by rfl, ?_⟩) ?_ ?_
       rotate_left
       ·intro w'
        go_simp
        with_reducible rfl
       rotate_left
       ·simp only [Act.put, sI_, s0_, sS_, i64_w, i32_w]
        rfl
       refine done_ (done_of HT_.out (by kernel_rfl)) ?_
       try go_wp2
       go_meet
       case rel => exact ⟨_, (true), (by first | rfl | (simp; done) | (simp [*]; done)), H', ⟨by have := HJ5.out; first | omega | exact Nat.le_refl _⟩, ⟨by (with_reducible repeat (first | apply Kd.R_alloc | apply Kd.R_drewN | apply Kd.R_drew)); exact HO361.out⟩, ⟨by repeat (first | (with_reducible first | exact HB.out | apply below_alloc | apply pw_below_drewN | apply below_drew1) | exact HB.out)⟩⟩
     case rest =>
      clear HC17
      try clear c1
      try clear c2
      try clear p2
      try clear p3
      try clear q3
      try clear hx3
      try clear c4
      try clear c9
      try clear c10
      try clear c10b0
      try clear c11
      try clear c14
      try clear c16
      try clear c16b0
      try clear c16b1
      try clear c19
      try clear c19b0
      try clear c19b1
      try clear c19b2
      try clear c20
      try clear c20b0
      try clear c21
      try clear c21b0
      try clear hx366_0
      try clear hx366_1
      try clear hx367_0
      try clear hx367_1
      try clear p2
      try clear p366
      try clear p367
      try clear q366
      try clear q367
      obtain ⟨kq, x81_16, rfl, HA, HJ16, HO_10, HB⟩ := hcut
      cases kq with
      | zero => exact absurd HA.out (by simp [cohousinglaw28_FlowExact.j1])
      | succ kj16 =>
       have H := HA.out
       clear HA
       simp only [cohousinglaw28_FlowExact.j1] at H
       by_cases c26 : x81_16 = true
       ·subst c26
        have H1 : (some false) = some r := by rw [if_pos rfl] at H; exact H
        clear H
        have H := H1
        clear H1
        obtain rfl := Option.some.inj H
        go_wp2
        go_ret
        exact ⟨by first | rfl | (simp [errW_none, errW_some] <;> rfl) | (simp [*, errW_none, errW_some] <;> rfl), by repeat (first | (with_reducible first | exact HB.out | apply below_alloc | apply pw_below_drewN | apply below_drew1) | exact HB.out)⟩
       ·replace c26 := Bool.eq_false_iff.mpr c26
        subst c26
        have H1 : (if 0 ≤ a2 then (if a2 < (t358.length : Int) then ((some (([a3, (rd_T39 t358 a2).f0, (rd_T39 t358 a2).f1, wrap64 (((rd_T39 t358 a2).f0) - 1), wrap64 (((rd_T39 t358 a2).f1) + 1)] : List Int) : List Int)).bind fun y372 => (cohousinglaw28_FlowExact.l0 kj16 l0 l1 a2 t356 t358 y372 (y372.length : Int) 0)) else (none)) else (none)) = some r := by rw [if_neg (show ¬ (false = true) by decide)] at H; exact H
        clear H
        have H := H1
        clear H1
        by_cases c27 : 0 ≤ a2
        ·rw [if_pos c27] at H
         have c27b0 : decide (0 ≤ a2) = true := decide_eq_true c27
         clear c27
         by_cases c28 : a2 < (t358.length : Int)
         ·rw [if_pos c28] at H
          have c28b0 : decide (a2 < (t358.length : Int)) = true := decide_eq_true c28
          clear c28
          obtain ⟨y372, hy372⟩ : ∃ y_ : List Int, y_ = (([a3, (rd_T39 t358 a2).f0, (rd_T39 t358 a2).f1, wrap64 (((rd_T39 t358 a2).f0) - 1), wrap64 (((rd_T39 t358 a2).f1) + 1)] : List Int)) := ⟨_, rfl⟩
          replace H : (cohousinglaw28_FlowExact.l0 kj16 l0 l1 a2 t356 t358 y372 (y372.length : Int) 0) = some r := by first | (rw [hy372]; with_reducible exact H) | (have H2_ := (Option.bind_some _ _).symm.trans H; rw [hy372]; with_reducible exact H2_) | (have H2_ := (Option.bind_some _ _).symm.trans H; with_reducible exact H2_) | with_reducible exact H | (rw [hy372]; exact H) | exact H
          have Ny372 := Aside0.mk hy372
          clear hy372
          have H' := Aside0.mk H
          clear H
          try go_wp2
          have n0_ := Aside0.mk (Kd.R_drew HO_10.out)
          have n1_ := Aside0.mk (below_drew1 HB.out)
          clear HO_10
          clear HB
          have HO_10 := n0_
          have HB := n1_
          clear n0_ n1_
          obtain ⟨Ao30, co30, eo30⟩ := Kd.R_slice HO_10.out
          (first | subst eo30 | (injection eo30 with f1_ f2_ f3_; have f4_ := f1_.symm; have f5_ := f3_.symm; clear f1_ f2_ f3_; subst f4_; subst f5_))
          have p368 : 0 ≤ (a2 : Int) := of_decide_eq_true (by first | (with_reducible assumption) | assumption)
          have q368 : a2 < (t358.length : Int) := of_decide_eq_true (by first | (with_reducible assumption) | assumption)
          obtain ⟨ad368, e368, hx368_0, hx368_1⟩ := at_T39 (Kd.R_reads' HO_10.out).2.2 a2 p368 q368
          cases e368
          replace p368 := eq_true p368
          replace q368 := eq_true q368
          have p369 : 0 ≤ (a2 : Int) := of_decide_eq_true (by first | (with_reducible assumption) | assumption)
          have q369 : a2 < (t358.length : Int) := of_decide_eq_true (by first | (with_reducible assumption) | assumption)
          obtain ⟨ad369, e369, hx369_0, hx369_1⟩ := at_T39 (Kd.R_reads' HO_10.out).2.2 a2 p369 q369
          obtain rfl : ad368 = ad369 := (by injection e369)
          replace p369 := eq_true p369
          replace q369 := eq_true q369
          have p370 : 0 ≤ (a2 : Int) := of_decide_eq_true (by first | (with_reducible assumption) | assumption)
          have q370 : a2 < (t358.length : Int) := of_decide_eq_true (by first | (with_reducible assumption) | assumption)
          obtain ⟨ad370, e370, hx370_0, hx370_1⟩ := at_T39 (Kd.R_reads' HO_10.out).2.2 a2 p370 q370
          obtain rfl : ad368 = ad370 := (by injection e370)
          replace p370 := eq_true p370
          replace q370 := eq_true q370
          have p371 : 0 ≤ (a2 : Int) := of_decide_eq_true (by first | (with_reducible assumption) | assumption)
          have q371 : a2 < (t358.length : Int) := of_decide_eq_true (by first | (with_reducible assumption) | assumption)
          obtain ⟨ad371, e371, hx371_0, hx371_1⟩ := at_T39 (Kd.R_reads' HO_10.out).2.2 a2 p371 q371
          obtain rfl : ad368 = ad371 := (by injection e371)
          replace p371 := eq_true p371
          replace q371 := eq_true q371
          refine start_ (n := 26) (S := fun w' => w'.cell? (ad368.add ((a2).toNat * 2)) = some (.int .i64 ((rd_T39 t358 a2).f0)) ∧ w'.cell? ⟨(ad368.add ((a2).toNat * 2)).block, (ad368.add ((a2).toNat * 2)).off + 1, none⟩ = some (.int .i64 ((rd_T39 t358 a2).f1)) ∧ w'.cell? (ad368.add ((a2).toNat * 2)) = some (.int .i64 ((rd_T39 t358 a2).f0)) ∧ w'.cell? ⟨(ad368.add ((a2).toNat * 2)).block, (ad368.add ((a2).toNat * 2)).off + 1, none⟩ = some (.int .i64 ((rd_T39 t358 a2).f1)) ∧ w'.cell? (ad368.add ((a2).toNat * 2)) = some (.int .i64 ((rd_T39 t358 a2).f0)) ∧ w'.cell? ⟨(ad368.add ((a2).toNat * 2)).block, (ad368.add ((a2).toNat * 2)).off + 1, none⟩ = some (.int .i64 ((rd_T39 t358 a2).f1)) ∧ w'.cell? (ad368.add ((a2).toNat * 2)) = some (.int .i64 ((rd_T39 t358 a2).f0)) ∧ w'.cell? ⟨(ad368.add ((a2).toNat * 2)).block, (ad368.add ((a2).toNat * 2)).off + 1, none⟩ = some (.int .i64 ((rd_T39 t358 a2).f1))) (ds := []) #[n_, n_, n_, n_, n_, n_, n_, n_, n_, n_, n_, n_, n_, n_, n_, n_, n_, n_, n_, n_, n_, n_, n_, n_, n_, n_] (by kernel_rfl) rfl rfl ⟨hx368_0, hx368_1, hx369_0, hx369_1, hx370_0, hx370_1, hx371_0, hx371_1⟩ (fun hHeld => ?_); refine with_tabW cohousinglaw28_FlowExact.tab10 cohousinglaw28_FlowExact.bits10 (fun HT_ HW_ => ?_)
          generalize wc.drew = w29 at HO_10 HB hx368_0 hx368_1 hx369_0 hx369_1 hx370_0 hx370_1 hx371_0 hx371_1 hHeld ⊢
          refine pure_ (i := 0) (N := some 82) (v := ?_) (a' := ?_) #[y_, n_, n_, n_, n_, n_, n_, n_, n_, n_, n_, n_, n_, n_, n_, n_, n_, n_, n_, n_, n_, n_, n_, n_, n_, n_] rfl rfl (any_of HT_.out (by kernel_rfl)) (fun _ _ _ h => h) (Or.inl ⟨by rfl, ?_⟩) ?_ ?_
          rotate_left
          ·intro w'
           go_simp
           with_reducible rfl
          rotate_left
          ·simp only [Act.put, sI_, s0_, sS_, i64_w, i32_w]
           rfl
          refine pure_ (i := 1) (N := some 83) (v := ?_) (a' := ?_) #[y_, y_, n_, n_, n_, n_, n_, n_, n_, n_, n_, n_, n_, n_, n_, n_, n_, n_, n_, n_, n_, n_, n_, n_, n_, n_] rfl rfl (any_of HT_.out (by kernel_rfl)) (fun _ _ _ h => h) (Or.inl ⟨by rfl, ?_⟩) ?_ ?_
          rotate_left
          ·intro w'
           go_simp
           with_reducible rfl
          rotate_left
          ·simp only [Act.put, sI_, s0_, sS_, i64_w, i32_w]
           rfl
          refine pure_ (i := 2) (N := some 84) (v := ?_) (a' := ?_) #[y_, y_, y_, n_, n_, n_, n_, n_, n_, n_, n_, n_, n_, n_, n_, n_, n_, n_, n_, n_, n_, n_, n_, n_, n_, n_] rfl rfl (any_of HT_.out (by kernel_rfl)) (fun _ _ _ h => h) (Or.inl ⟨by rfl, ?_⟩) ?_ ?_
          rotate_left
          ·intro w'
           go_simp
           with_reducible rfl
          rotate_left
          ·simp only [Act.put, sI_, s0_, sS_, i64_w, i32_w]
           rfl
          refine pure_ (i := 3) (N := some 85) (v := ?_) (a' := ?_) #[y_, y_, y_, y_, n_, n_, n_, n_, n_, n_, n_, n_, n_, n_, n_, n_, n_, n_, n_, n_, n_, n_, n_, n_, n_, n_] rfl rfl (any_of HT_.out (by kernel_rfl)) (fun _ _ _ h => h) (Or.inl ⟨by rfl, ?_⟩) ?_ ?_
          rotate_left
          ·intro w'
           go_simp
           with_reducible rfl
          rotate_left
          ·simp only [Act.put, sI_, s0_, sS_, i64_w, i32_w]
           rfl
          refine pure_ (i := 4) (N := some 86) (v := ?_) (a' := ?_) #[y_, y_, y_, y_, y_, n_, n_, n_, n_, n_, n_, n_, n_, n_, n_, n_, n_, n_, n_, n_, n_, n_, n_, n_, n_, n_] rfl rfl (any_of HT_.out (by kernel_rfl)) (fun _ _ _ h => h) (Or.inl ⟨by rfl, ?_⟩) ?_ ?_
          rotate_left
          ·intro w'
           go_simp
           with_reducible rfl
          rotate_left
          ·simp only [Act.put, sI_, s0_, sS_, i64_w, i32_w]
           rfl
          refine pure_ (i := 6) (N := some 88) (v := ?_) (a' := ?_) #[y_, y_, y_, y_, y_, n_, y_, n_, n_, n_, n_, n_, n_, n_, n_, n_, n_, n_, n_, n_, n_, n_, n_, n_, n_, n_] rfl rfl (any_of HT_.out (by kernel_rfl)) (fun _ _ _ h => h) (Or.inl ⟨by rfl, ?_⟩) ?_ ?_
          rotate_left
          ·intro w'
           go_simp
           with_reducible rfl
          rotate_left
          ·simp only [Act.put, sI_, s0_, sS_, i64_w, i32_w]
           rfl
          refine pure_ (i := 7) (N := some 89) (v := ?_) (a' := ?_) #[y_, y_, y_, y_, y_, n_, y_, y_, n_, n_, n_, n_, n_, n_, n_, n_, n_, n_, n_, n_, n_, n_, n_, n_, n_, n_] rfl rfl (any_of HT_.out (by kernel_rfl)) (fun _ _ _ h => h) (Or.inl ⟨by rfl, ?_⟩) ?_ ?_
          rotate_left
          ·intro w'
           go_simp
           with_reducible rfl
          rotate_left
          ·simp only [Act.put, sI_, s0_, sS_, i64_w, i32_w]
           rfl
          refine pure_ (i := 8) (N := some 90) (v := ?_) (a' := ?_) #[y_, y_, y_, y_, y_, n_, y_, y_, y_, n_, n_, n_, n_, n_, n_, n_, n_, n_, n_, n_, n_, n_, n_, n_, n_, n_] rfl rfl (any_of HT_.out (by kernel_rfl)) (fun _ _ _ h => h) (Or.inl ⟨by rfl, ?_⟩) ?_ ?_
          rotate_left
          ·intro w'
           go_simp
           with_reducible rfl
          rotate_left
          ·simp only [Act.put, sI_, s0_, sS_, i64_w, i32_w]
           rfl
          refine pure_ (i := 9) (N := some 91) (v := ?_) (a' := ?_) #[y_, y_, y_, y_, y_, n_, y_, y_, y_, y_, n_, n_, n_, n_, n_, n_, n_, n_, n_, n_, n_, n_, n_, n_, n_, n_] rfl rfl (any_of HT_.out (by kernel_rfl)) (fun _ _ _ h => h) (Or.inl ⟨by rfl, ?_⟩) ?_ ?_
          rotate_left
          ·intro w'
           go_simp
           with_reducible rfl
          rotate_left
          ·simp only [Act.put, sI_, s0_, sS_, i64_w, i32_w]
           rfl
          refine pure_ (i := 11) (N := some 93) (v := ?_) (a' := ?_) #[y_, y_, y_, y_, y_, n_, y_, y_, y_, y_, n_, y_, n_, n_, n_, n_, n_, n_, n_, n_, n_, n_, n_, n_, n_, n_] rfl rfl (any_of HT_.out (by kernel_rfl)) (fun _ _ _ h => h) (Or.inl ⟨by rfl, ?_⟩) ?_ ?_
          rotate_left
          ·intro w'
           go_simp
           with_reducible rfl
          rotate_left
          ·simp only [Act.put, sI_, s0_, sS_, i64_w, i32_w]
           rfl
          refine pure_ (i := 12) (N := some 94) (v := ?_) (a' := ?_) #[y_, y_, y_, y_, y_, n_, y_, y_, y_, y_, n_, y_, y_, n_, n_, n_, n_, n_, n_, n_, n_, n_, n_, n_, n_, n_] rfl rfl (any_of HT_.out (by kernel_rfl)) (fun _ _ _ h => h) (Or.inl ⟨by rfl, ?_⟩) ?_ ?_
          rotate_left
          ·intro w'
           go_simp
           with_reducible rfl
          rotate_left
          ·simp only [Act.put, sI_, s0_, sS_, i64_w, i32_w]
           rfl
          refine pure_ (i := 13) (N := some 95) (v := ?_) (a' := ?_) #[y_, y_, y_, y_, y_, n_, y_, y_, y_, y_, n_, y_, y_, y_, n_, n_, n_, n_, n_, n_, n_, n_, n_, n_, n_, n_] rfl rfl (any_of HT_.out (by kernel_rfl)) (fun _ _ _ h => h) (Or.inl ⟨by rfl, ?_⟩) ?_ ?_
          rotate_left
          ·intro w'
           go_simp
           with_reducible rfl
          rotate_left
          ·simp only [Act.put, sI_, s0_, sS_, i64_w, i32_w]
           rfl
          refine pure_ (i := 14) (N := some 96) (v := ?_) (a' := ?_) #[y_, y_, y_, y_, y_, n_, y_, y_, y_, y_, n_, y_, y_, y_, y_, n_, n_, n_, n_, n_, n_, n_, n_, n_, n_, n_] rfl rfl (any_of HT_.out (by kernel_rfl)) (fun _ _ _ h => h) (Or.inl ⟨by rfl, ?_⟩) ?_ ?_
          rotate_left
          ·intro w'
           go_simp
           with_reducible rfl
          rotate_left
          ·simp only [Act.put, sI_, s0_, sS_, i64_w, i32_w]
           rfl
          refine pure_ (i := 17) (N := some 99) (v := ?_) (a' := ?_) #[y_, y_, y_, y_, y_, n_, y_, y_, y_, y_, n_, y_, y_, y_, y_, n_, n_, y_, n_, n_, n_, n_, n_, n_, n_, n_] rfl rfl (any_of HT_.out (by kernel_rfl)) (fun _ _ _ h => h) (Or.inl ⟨by rfl, ?_⟩) ?_ ?_
          rotate_left
          ·intro w'
           go_simp
           with_reducible rfl
          rotate_left
          ·simp only [Act.put, sI_, s0_, sS_, i64_w, i32_w]
           rfl
          refine pure_ (i := 18) (N := some 100) (v := ?_) (a' := ?_) #[y_, y_, y_, y_, y_, n_, y_, y_, y_, y_, n_, y_, y_, y_, y_, n_, n_, y_, y_, n_, n_, n_, n_, n_, n_, n_] rfl rfl (any_of HT_.out (by kernel_rfl)) (fun _ _ _ h => h) (Or.inl ⟨by rfl, ?_⟩) ?_ ?_
          rotate_left
          ·intro w'
           go_simp
           with_reducible rfl
          rotate_left
          ·simp only [Act.put, sI_, s0_, sS_, i64_w, i32_w]
           rfl
          refine pure_ (i := 19) (N := some 101) (v := ?_) (a' := ?_) #[y_, y_, y_, y_, y_, n_, y_, y_, y_, y_, n_, y_, y_, y_, y_, n_, n_, y_, y_, y_, n_, n_, n_, n_, n_, n_] rfl rfl (any_of HT_.out (by kernel_rfl)) (fun _ _ _ h => h) (Or.inl ⟨by rfl, ?_⟩) ?_ ?_
          rotate_left
          ·intro w'
           go_simp
           with_reducible rfl
          rotate_left
          ·simp only [Act.put, sI_, s0_, sS_, i64_w, i32_w]
           rfl
          refine pure_ (i := 20) (N := some 102) (v := ?_) (a' := ?_) #[y_, y_, y_, y_, y_, n_, y_, y_, y_, y_, n_, y_, y_, y_, y_, n_, n_, y_, y_, y_, y_, n_, n_, n_, n_, n_] rfl rfl (any_of HT_.out (by kernel_rfl)) (fun _ _ _ h => h) (Or.inl ⟨by rfl, ?_⟩) ?_ ?_
          rotate_left
          ·intro w'
           go_simp
           with_reducible rfl
          rotate_left
          ·simp only [Act.put, sI_, s0_, sS_, i64_w, i32_w]
           rfl
          refine pure_ (i := 25) (N := some 107) (v := ?_) (a' := ?_) #[y_, y_, y_, y_, y_, n_, y_, y_, y_, y_, n_, y_, y_, y_, y_, n_, n_, y_, y_, y_, y_, n_, n_, n_, n_, y_] rfl rfl (any_of HT_.out (by kernel_rfl)) (fun _ _ _ h => h) (Or.inl ⟨by rfl, ?_⟩) ?_ ?_
          rotate_left
          ·intro w'
           go_simp
           with_reducible rfl
          rotate_left
          ·simp only [Act.put, sI_, s0_, sS_, i64_w, i32_w]
           rfl
          refine take_ (i := 5) (N := some 87) (v := ?_) (a' := ?_) #[y_, y_, y_, y_, y_, y_, y_, y_, y_, y_, n_, y_, y_, y_, y_, n_, n_, y_, y_, y_, y_, n_, n_, n_, n_, y_] rfl rfl (take_ofW HT_.out HW_.out (by kernel_rfl)) (fun _ _ _ h => h) (Or.inl ⟨by rfl, ?_⟩) hHeld ?_ ?_
          rotate_left
          ·rintro w' ⟨s0, s1, s2, s3, s4, s5, s6, s7⟩
           go_simp
           with_reducible rfl
          rotate_left
          ·simp only [Act.put, sI_, s0_, sS_, i64_w, i32_w]
           rfl
          refine take_ (i := 10) (N := some 92) (v := ?_) (a' := ?_) #[y_, y_, y_, y_, y_, y_, y_, y_, y_, y_, y_, y_, y_, y_, y_, n_, n_, y_, y_, y_, y_, n_, n_, n_, n_, y_] rfl rfl (take_ofW HT_.out HW_.out (by kernel_rfl)) (fun _ _ _ h => h) (Or.inl ⟨by rfl, ?_⟩) hHeld ?_ ?_
          rotate_left
          ·rintro w' ⟨s0, s1, s2, s3, s4, s5, s6, s7⟩
           go_simp
           with_reducible rfl
          rotate_left
          ·simp only [Act.put, sI_, s0_, sS_, i64_w, i32_w]
           rfl
          refine take_ (i := 15) (N := some 97) (v := ?_) (a' := ?_) #[y_, y_, y_, y_, y_, y_, y_, y_, y_, y_, y_, y_, y_, y_, y_, y_, n_, y_, y_, y_, y_, n_, n_, n_, n_, y_] rfl rfl (take_ofW HT_.out HW_.out (by kernel_rfl)) (fun _ _ _ h => h) (Or.inl ⟨by rfl, ?_⟩) hHeld ?_ ?_
          rotate_left
          ·rintro w' ⟨s0, s1, s2, s3, s4, s5, s6, s7⟩
           go_simp
           with_reducible rfl
          rotate_left
          ·simp only [Act.put, sI_, s0_, sS_, i64_w, i32_w]
           rfl
          refine pure_ (i := 16) (N := some 98) (v := ?_) (a' := ?_) #[y_, y_, y_, y_, y_, y_, y_, y_, y_, y_, y_, y_, y_, y_, y_, y_, y_, y_, y_, y_, y_, n_, n_, n_, n_, y_] rfl rfl (any_of HT_.out (by kernel_rfl)) (fun _ _ _ h => h) (Or.inl ⟨by rfl, ?_⟩) ?_ ?_
          rotate_left
          ·intro w'
           go_simp
           with_reducible rfl
          rotate_left
          ·simp only [Act.put, sI_, s0_, sS_, i64_w, i32_w]
           rfl
          refine take_ (i := 21) (N := some 103) (v := ?_) (a' := ?_) #[y_, y_, y_, y_, y_, y_, y_, y_, y_, y_, y_, y_, y_, y_, y_, y_, y_, y_, y_, y_, y_, y_, n_, n_, n_, y_] rfl rfl (take_ofW HT_.out HW_.out (by kernel_rfl)) (fun _ _ _ h => h) (Or.inl ⟨by rfl, ?_⟩) hHeld ?_ ?_
          rotate_left
          ·rintro w' ⟨s0, s1, s2, s3, s4, s5, s6, s7⟩
           go_simp
           with_reducible rfl
          rotate_left
          ·simp only [Act.put, sI_, s0_, sS_, i64_w, i32_w]
           rfl
          refine pure_ (i := 22) (N := some 104) (v := ?_) (a' := ?_) #[y_, y_, y_, y_, y_, y_, y_, y_, y_, y_, y_, y_, y_, y_, y_, y_, y_, y_, y_, y_, y_, y_, y_, n_, n_, y_] rfl rfl (any_of HT_.out (by kernel_rfl)) (fun _ _ _ h => h) (Or.inl ⟨by rfl, ?_⟩) ?_ ?_
          rotate_left
          ·intro w'
           go_simp
           with_reducible rfl
          rotate_left
          ·simp only [Act.put, sI_, s0_, sS_, i64_w, i32_w]
           rfl
          refine one_ (i := 23) (N := some 105) #[y_, y_, y_, y_, y_, y_, y_, y_, y_, y_, y_, y_, y_, y_, y_, y_, y_, y_, y_, y_, y_, y_, y_, y_, n_, y_] rfl rfl (one_of HT_.out (by kernel_rfl)) (by decide) (fun K hK => ?_)
          refine Kd.R_lit_step (Kd.int .i64) _ 3 ?hg (N := 105) ?hd (xs := ([a3, (rd_T39 t358 a2).f0, (rd_T39 t358 a2).f1, wrap64 (((rd_T39 t358 a2).f0) - 1), wrap64 (((rd_T39 t358 a2).f1) + 1)] : List Int)) (inner := [.int .i64 a3, .int .i64 ((rd_T39 t358 a2).f0), .int .i64 ((rd_T39 t358 a2).f1), .int .i64 (wrap64 (((rd_T39 t358 a2).f0) - 1)), .int .i64 (wrap64 (((rd_T39 t358 a2).f1) + 1))]) (ok := fun _ => True) (okp := fun _ => True) ?hr ?hp (fun _ hk => hk) trivial (Below.refl _ _) (Nat.le_refl _) (by simp) ?_; (case hd => rfl); (case hg => rfl); (case hr => first | (go_simp; done) | (go_simp; rfl)); (case hp => exact (Reps.one (show Kd.M (Kd.int .i64) _ _ _ a3 [.int .i64 a3] from rfl) (Reps.one (show Kd.M (Kd.int .i64) _ _ _ ((rd_T39 t358 a2).f0) [.int .i64 ((rd_T39 t358 a2).f0)] from rfl) (Reps.one (show Kd.M (Kd.int .i64) _ _ _ ((rd_T39 t358 a2).f1) [.int .i64 ((rd_T39 t358 a2).f1)] from rfl) (Reps.one (show Kd.M (Kd.int .i64) _ _ _ (wrap64 (((rd_T39 t358 a2).f0) - 1)) [.int .i64 (wrap64 (((rd_T39 t358 a2).f0) - 1))] from rfl) (Reps.one (show Kd.M (Kd.int .i64) _ _ _ (wrap64 (((rd_T39 t358 a2).f1) + 1)) [.int .i64 (wrap64 (((rd_T39 t358 a2).f1) + 1))] from rfl) (Reps.none _ _)))))))
          intro v373 w31 ho32 hb hg_ hnew_
          have HS0_ := (hb.cell (World.block_lt_of_cell? _ _ (hHeld.1))).trans (hHeld.1)
          have HS1_ := (hb.cell (World.block_lt_of_cell? _ _ (hHeld.2.1))).trans (hHeld.2.1)
          have HS2_ := (hb.cell (World.block_lt_of_cell? _ _ (hHeld.2.2.1))).trans (hHeld.2.2.1)
          have HS3_ := (hb.cell (World.block_lt_of_cell? _ _ (hHeld.2.2.2.1))).trans (hHeld.2.2.2.1)
          have HS4_ := (hb.cell (World.block_lt_of_cell? _ _ (hHeld.2.2.2.2.1))).trans (hHeld.2.2.2.2.1)
          have HS5_ := (hb.cell (World.block_lt_of_cell? _ _ (hHeld.2.2.2.2.2.1))).trans (hHeld.2.2.2.2.2.1)
          have HS6_ := (hb.cell (World.block_lt_of_cell? _ _ (hHeld.2.2.2.2.2.2.1))).trans (hHeld.2.2.2.2.2.2.1)
          have HS7_ := (hb.cell (World.block_lt_of_cell? _ _ (hHeld.2.2.2.2.2.2.2))).trans (hHeld.2.2.2.2.2.2.2)
          clear hg_ hnew_
          (first | rw [← Ny372.out] at ho32 | (simp only [Int.reduceToNat] at ho32; rw [← Ny372.out] at ho32))
          have n0_ := Aside0.mk (Kd.R_below (by (with_reducible repeat (first | apply Kd.R_alloc | apply Kd.R_drewN | apply Kd.R_drew)); exact HO_10.out) hb)
          have n1_ := Aside0.mk (Kd.R_lower ho32 (below_size (by repeat (first | (with_reducible first | exact HB.out | apply below_alloc | apply pw_below_drewN | apply below_drew1) | exact HB.out))))
          have n2_ := Aside0.mk (below_step (by repeat (first | (with_reducible first | exact HB.out | apply below_alloc | apply pw_below_drewN | apply below_drew1) | exact HB.out)) hb)
          clear HO_10
          clear HB
          have HO_10 := n0_
          have HO374 := n1_
          have HB := n2_
          clear n0_ n1_ n2_
          clear hb ho32
          obtain ⟨Ao33, co33, eo33⟩ := Kd.R_slice HO374.out
          (first | subst eo33 | (injection eo33 with f1_ f2_ f3_; have f4_ := f1_.symm; have f5_ := f3_.symm; clear f1_ f2_ f3_; subst f4_; subst f5_))
          refine hK.out _ _ ⟨HS0_, HS1_, HS2_, HS3_, HS4_, HS5_, HS6_, HS7_⟩ (fun hHeld => ?_)
          clear hK K
          refine norm_ (a' := ?_) ?_ ?_
          rotate_left
          ·show Act.put _ (some 105) _ = _
           simp only [Act.put, sI_, s0_, sS_, i64_w, i32_w]
           rfl
          refine pure_ (i := 24) (N := some 106) (v := ?_) (a' := ?_) #[y_, y_, y_, y_, y_, y_, y_, y_, y_, y_, y_, y_, y_, y_, y_, y_, y_, y_, y_, y_, y_, y_, y_, y_, y_, y_] rfl rfl (any_of HT_.out (by kernel_rfl)) (fun _ _ _ h => h) (Or.inl ⟨by rfl, ?_⟩) ?_ ?_
          rotate_left
          ·intro w'
           go_simp
           with_reducible rfl
          rotate_left
          ·simp only [Act.put, sI_, s0_, sS_, i64_w, i32_w]
           rfl
          refine done_ (done_of HT_.out (by kernel_rfl)) ?_
          try go_wp2
          go_loopg [9, 107] kj16 (fun kq v9 v107 w' => ∃ (x9_3 : Bool) (x107_3 : Int), v9 = .bool x9_3 ∧ v107 = .int .i64 x107_3 ∧ Aside0 (cohousinglaw28_FlowExact.l0 kq l0 l1 a2 x9_3 t358 y372 (y372.length : Int) x107_3 = some r) ∧ Aside0 (kq ≤ kj16) ∧ Aside0 (Kd.R k39 39 w' w.heap.size (fun _ => True) (.slice (some ad368) t358.length co30) t358) ∧ Aside0 (Kd.R (Kd.int .i64) 3 w' w.heap.size (fun _ => True) (.slice Ao33 y372.length co33) y372) ∧ Aside0 (Below w.heap.size w w'))
          case atStart => exact ⟨(t356), (0), (by first | rfl | (simp; done) | (simp [*]; done)), (by first | rfl | (simp; done) | (simp [*]; done)), H', ⟨Nat.le_refl _⟩, ⟨by (with_reducible repeat (first | apply Kd.R_alloc | apply Kd.R_drewN | apply Kd.R_drew)); exact HO_10.out⟩, ⟨by (with_reducible repeat (first | apply Kd.R_alloc | apply Kd.R_drewN | apply Kd.R_drew)); exact HO374.out⟩, ⟨by repeat (first | (with_reducible first | exact HB.out | apply below_alloc | apply pw_below_drewN | apply below_drew1) | exact HB.out)⟩⟩
          case round =>
           clear H'
           try clear c1
           try clear c2
           try clear p2
           try clear p3
           try clear q3
           try clear hx3
           try clear c4
           try clear p6
           try clear c9
           try clear c10
           try clear c10b0
           try clear c11
           try clear c14
           try clear c16
           try clear c16b0
           try clear c16b1
           try clear c19
           try clear c19b0
           try clear c19b1
           try clear c19b2
           try clear c20
           try clear c20b0
           try clear c21
           try clear c21b0
           try clear c26
           try clear c27
           try clear c27b0
           try clear c28
           try clear c28b0
           try clear hx366_0
           try clear hx366_1
           try clear hx367_0
           try clear hx367_1
           try clear hx368_0
           try clear hx368_1
           try clear hx369_0
           try clear hx369_1
           try clear hx370_0
           try clear hx370_1
           try clear hx371_0
           try clear hx371_1
           try clear p2
           try clear p3
           try clear p366
           try clear p367
           try clear p368
           try clear p369
           try clear p370
           try clear p371
           try clear q3
           try clear q366
           try clear q367
           try clear q368
           try clear q369
           try clear q370
           try clear q371
           obtain ⟨x9_3, x107_3, rfl, rfl, HA, HK3, HO_10, HO_105, HB⟩ := hrel
           cases gk with
           | zero => exact absurd HA.out (by simp [cohousinglaw28_FlowExact.l0])
           | succ k3 =>
            have H := HA.out
            clear HA
            simp only [cohousinglaw28_FlowExact.l0] at H
            by_cases c34 : x107_3 < (y372.length : Int)
            ·rw [if_pos c34] at H
             have c34b0 : decide (x107_3 < (y372.length : Int)) = true := decide_eq_true c34
             clear c34
             by_cases c35 : 0 ≤ x107_3
             ·rw [if_pos c35] at H
              have c35b0 : decide (0 ≤ x107_3) = true := decide_eq_true c35
              clear c35
              by_cases c36 : x107_3 < (y372.length : Int)
              ·rw [if_pos c36] at H
               have c36b0 : decide (x107_3 < (y372.length : Int)) = true := decide_eq_true c36
               clear c36
               replace H := Option.bind_eq_some_iff.mp H
               obtain ⟨⟨t376, t377⟩, A370, H⟩ := H
               replace H : (if 0 ≤ a2 then (if a2 < (t358.length : Int) then (if (rd y372 x107_3) < ((rd_T39 t358 a2).f0) then (cohousinglaw28_FlowExact.j3 k3 l0 l1 a2 x9_3 t358 (rd y372 x107_3) t376 t377 y372 (y372.length : Int) x107_3 true) else (cohousinglaw28_FlowExact.j3 k3 l0 l1 a2 x9_3 t358 (rd y372 x107_3) t376 t377 y372 (y372.length : Int) x107_3 (decide ((rd y372 x107_3) > ((rd_T39 t358 a2).f1))))) else (none)) else (none)) = some r := H
               have A37 := Aside0.mk A370
               clear A370
               have HC38 := Aside0.mk H
               clear H
               have p375 : 0 ≤ (x107_3 : Int) := of_decide_eq_true (by first | (with_reducible assumption) | assumption)
               have q375 : x107_3 < (y372.length : Int) := of_decide_eq_true (by first | (with_reducible assumption) | assumption)
               obtain ⟨ad375, e375, hx375_0⟩ := Kd.at_int (Kd.R_reads' HO_105.out).2.2 x107_3 p375 q375
               cases e375
               replace p375 := eq_true p375
               replace q375 := eq_true q375
               go_upto_region 14 with (first | ((with_reducible refine gate_callee (f := 18) rfl ?_); refine goesL_ (some 116) rfl rfl Try.func18 (by kernel_rfl) rfl #[.slice A0 l0.length c0, .slice A1 l1.length c1, .int .i64 a2, .int .i64 (rd y372 x107_3)] rfl (by (try simp only [List.map_toArray, List.map_cons, List.map_nil]); first | done | rfl | (simp only [List.length_drop, List.length_take]; rfl)) ?_; (with_reducible refine (flow_State.calls _ _ l0 _ _ l1 a2 (rd y372 x107_3) t376 t377 _ ?side1 ?side2 ?side3 ?side4 A37.out).mono ?_); (case side1 => repeat (first | exact (Kd.C_below HR0.out HB.out) | (with_reducible refine Kd.C_alloc ?_ _) | (with_reducible refine Kd.C_drewN ?_ _) | (with_reducible refine Kd.C_drew ?_))); (case side2 => exact HC0.out); (case side3 => repeat (first | exact (Kd.C_below HR1.out HB.out) | (with_reducible refine Kd.C_alloc ?_ _) | (with_reducible refine Kd.C_drewN ?_ _) | (with_reducible refine Kd.C_drew ?_))); (case side4 => exact HC1.out); rintro e w39 ⟨v378, rfl, ho0, hb⟩; refine ⟨_, rfl, ?_⟩; have n0_ := Aside0.mk (Kd.R_below (by (with_reducible repeat (first | apply Kd.R_alloc | apply Kd.R_drewN | apply Kd.R_drew)); exact HO_10.out) hb); have n1_ := Aside0.mk (Kd.R_elder' (by (with_reducible repeat (first | apply Kd.R_alloc | apply Kd.R_drewN | apply Kd.R_drew)); exact HO_105.out) (Kd.R_base ho0) hb); have n2_ := Aside0.mk (Kd.R_lower (Kd.R_new' ho0 (Kd.R_lt (by (with_reducible repeat (first | apply Kd.R_alloc | apply Kd.R_drewN | apply Kd.R_drew)); exact HO_105.out))) (below_size (by repeat (first | (with_reducible first | exact HB.out | apply below_alloc | apply pw_below_drewN | apply below_drew1) | exact HB.out)))); have n3_ := Aside0.mk (below_step (by repeat (first | (with_reducible first | exact HB.out | apply below_alloc | apply pw_below_drewN | apply below_drew1) | exact HB.out)) hb); clear HO_10; clear HO_105; clear HB; have HO_10 := n0_; have HO_105 := n1_; have HO379 := n2_; have HB := n3_; clear n0_ n1_ n2_ n3_; (try clear hb); (try clear hb2); (try clear hk); (try clear hi); (try clear ho0)))
               (try simp only [Act.put, sI_, s0_, sS_])
               go_cut [134] (fun v134 wc => ∃ (kq : Nat) (x134_37 : Bool), v134 = .bool x134_37 ∧ Aside0 (cohousinglaw28_FlowExact.j3 kq l0 l1 a2 x9_3 t358 (rd y372 x107_3) t376 t377 y372 (y372.length : Int) x107_3 x134_37 = some r) ∧ Aside0 (kq ≤ k3) ∧ Aside0 (Kd.R k39 39 wc w.heap.size (fun _ => True) (.slice (some ad368) t358.length co30) t358) ∧ Aside0 (Kd.R (Kd.int .i64) 3 wc w.heap.size (fun k_ => some k_ ≠ ((.slice (some ad375) y372.length co33) : Value).ownBlock) v378 t376) ∧ Aside0 (Kd.R (Kd.int .i64) 3 wc w.heap.size (fun k_ => some k_ ≠ (v378 : Value).ownBlock) (.slice (some ad375) y372.length co33) y372) ∧ Aside0 (Below w.heap.size w wc))
               case first =>
                have H := HC38.out
                clear HC38
                by_cases c40 : 0 ≤ a2
                ·rw [if_pos c40] at H
                 have c40b0 : decide (0 ≤ a2) = true := decide_eq_true c40
                 clear c40
                 (first | rw [c40b0] | (simp only [i64_w, i32_w]; rw [c40b0]) | skip)
                 by_cases c41 : a2 < (t358.length : Int)
                 ·rw [if_pos c41] at H
                  have c41b0 : decide (a2 < (t358.length : Int)) = true := decide_eq_true c41
                  clear c41
                  by_cases c42 : (rd y372 x107_3) < ((rd_T39 t358 a2).f0)
                  ·rw [if_pos c42] at H
                   have c42b0 : decide ((rd y372 x107_3) < ((rd_T39 t358 a2).f0)) = true := decide_eq_true c42
                   clear c42
                   have H' := Aside0.mk H
                   clear H
                   have p380 : 0 ≤ (a2 : Int) := of_decide_eq_true (by first | (with_reducible assumption) | assumption)
                   have q380 : a2 < (t358.length : Int) := of_decide_eq_true (by first | (with_reducible assumption) | assumption)
                   obtain ⟨ad380, e380, hx380_0, hx380_1⟩ := at_T39 (Kd.R_reads' HO_10.out).2.2 a2 p380 q380
                   obtain rfl : ad368 = ad380 := (by injection e380)
                   replace p380 := eq_true p380
                   replace q380 := eq_true q380
                   go_wp2
                   go_meet
                   case rel => exact ⟨_, (true), (by first | rfl | (simp; done) | (simp [*]; done)), H', ⟨by have := HJ5.out; have := HJ16.out; have := HK3.out; first | omega | exact Nat.le_refl _⟩, ⟨by (with_reducible repeat (first | apply Kd.R_alloc | apply Kd.R_drewN | apply Kd.R_drew)); exact HO_10.out⟩, ⟨by (with_reducible repeat (first | apply Kd.R_alloc | apply Kd.R_drewN | apply Kd.R_drew)); exact Kd.R_mono HO379.out (fun _ hk => hk.2)⟩, ⟨by (with_reducible repeat (first | apply Kd.R_alloc | apply Kd.R_drewN | apply Kd.R_drew)); exact Kd.R_mono HO_105.out (fun _ hk => hk.2)⟩, ⟨by repeat (first | (with_reducible first | exact HB.out | apply below_alloc | apply pw_below_drewN | apply below_drew1) | exact HB.out)⟩⟩
                  ·rw [if_neg c42] at H
                   have c42b0 : decide ((rd y372 x107_3) < ((rd_T39 t358 a2).f0)) = false := decide_eq_false c42
                   clear c42
                   have H' := Aside0.mk H
                   clear H
                   have p380 : 0 ≤ (a2 : Int) := of_decide_eq_true (by first | (with_reducible assumption) | assumption)
                   have q380 : a2 < (t358.length : Int) := of_decide_eq_true (by first | (with_reducible assumption) | assumption)
                   obtain ⟨ad380, e380, hx380_0, hx380_1⟩ := at_T39 (Kd.R_reads' HO_10.out).2.2 a2 p380 q380
                   obtain rfl : ad368 = ad380 := (by injection e380)
                   replace p380 := eq_true p380
                   replace q380 := eq_true q380
                   have p381 : 0 ≤ (a2 : Int) := of_decide_eq_true (by first | (with_reducible assumption) | assumption)
                   have q381 : a2 < (t358.length : Int) := of_decide_eq_true (by first | (with_reducible assumption) | assumption)
                   obtain ⟨ad381, e381, hx381_0, hx381_1⟩ := at_T39 (Kd.R_reads' HO_10.out).2.2 a2 p381 q381
                   obtain rfl : ad368 = ad381 := (by injection e381)
                   replace p381 := eq_true p381
                   replace q381 := eq_true q381
                   go_wp2
                   go_meet
                   case rel => exact ⟨_, (decide ((rd y372 x107_3) > ((rd_T39 t358 a2).f1))), (by first | rfl | (simp; done) | (simp [*]; done)), H', ⟨by have := HJ5.out; have := HJ16.out; have := HK3.out; first | omega | exact Nat.le_refl _⟩, ⟨by (with_reducible repeat (first | apply Kd.R_alloc | apply Kd.R_drewN | apply Kd.R_drew)); exact HO_10.out⟩, ⟨by (with_reducible repeat (first | apply Kd.R_alloc | apply Kd.R_drewN | apply Kd.R_drew)); exact Kd.R_mono HO379.out (fun _ hk => hk.2)⟩, ⟨by (with_reducible repeat (first | apply Kd.R_alloc | apply Kd.R_drewN | apply Kd.R_drew)); exact Kd.R_mono HO_105.out (fun _ hk => hk.2)⟩, ⟨by repeat (first | (with_reducible first | exact HB.out | apply below_alloc | apply pw_below_drewN | apply below_drew1) | exact HB.out)⟩⟩
                 ·rw [if_neg c41] at H
                  exact absurd H (by simp)
                ·rw [if_neg c40] at H
                 exact absurd H (by simp)
               case rest =>
                clear HC38
                try clear c1
                try clear c2
                try clear p2
                try clear c3
                try clear p3
                try clear q3
                try clear hx3
                try clear c4
                try clear p6
                try clear c9
                try clear c10
                try clear c10b0
                try clear c11
                try clear c14
                try clear c16
                try clear c16b0
                try clear c16b1
                try clear c18
                try clear c19
                try clear c19b0
                try clear c19b1
                try clear c19b2
                try clear c20
                try clear c20b0
                try clear c21
                try clear c21b0
                try clear c26
                try clear c27
                try clear c27b0
                try clear c28
                try clear c28b0
                try clear c34
                try clear c34b0
                try clear c35
                try clear c35b0
                try clear c36
                try clear c36b0
                try clear p36
                try clear q36
                try clear hx36
                try clear p37
                try clear q37
                try clear hx37
                try clear p38
                try clear q38
                try clear hx38
                try clear c40
                try clear c40b0
                try clear c41
                try clear c41b0
                try clear c42
                try clear c42b0
                try clear hx366_0
                try clear hx366_1
                try clear hx367_0
                try clear hx367_1
                try clear hx368_0
                try clear hx368_1
                try clear hx369_0
                try clear hx369_1
                try clear hx370_0
                try clear hx370_1
                try clear hx371_0
                try clear hx371_1
                try clear hx375_0
                try clear hx380_0
                try clear hx380_1
                try clear hx381_0
                try clear hx381_1
                try clear p2
                try clear p3
                try clear p366
                try clear p367
                try clear p368
                try clear p369
                try clear p370
                try clear p371
                try clear p375
                try clear p380
                try clear p381
                try clear p6
                try clear q3
                try clear q366
                try clear q367
                try clear q368
                try clear q369
                try clear q370
                try clear q371
                try clear q375
                try clear q380
                try clear q381
                obtain ⟨kq, x134_37, rfl, HA, HJ37, HO_10, HO_16, HO_105, HB⟩ := hcut
                cases kq with
                | zero => exact absurd HA.out (by simp [cohousinglaw28_FlowExact.j3])
                | succ kj37 =>
                 have H := HA.out
                 clear HA
                 simp only [cohousinglaw28_FlowExact.j3] at H
                 by_cases c43 : x134_37 = true
                 ·subst c43
                  have H1 : (if x9_3 = true then (if t377 = 30 then (cohousinglaw28_FlowExact.l0 kj37 l0 l1 a2 ((t376.length : Int) == 0) t358 y372 (y372.length : Int) (wrap64 (x107_3 + 1))) else (cohousinglaw28_FlowExact.l0 kj37 l0 l1 a2 false t358 y372 (y372.length : Int) (wrap64 (x107_3 + 1)))) else (cohousinglaw28_FlowExact.l0 kj37 l0 l1 a2 false t358 y372 (y372.length : Int) (wrap64 (x107_3 + 1)))) = some r := by rw [if_pos rfl] at H; exact H
                  clear H
                  have H := H1
                  clear H1
                  by_cases c44 : x9_3 = true
                  ·subst c44
                   have H1 : (if t377 = 30 then (cohousinglaw28_FlowExact.l0 kj37 l0 l1 a2 ((t376.length : Int) == 0) t358 y372 (y372.length : Int) (wrap64 (x107_3 + 1))) else (cohousinglaw28_FlowExact.l0 kj37 l0 l1 a2 false t358 y372 (y372.length : Int) (wrap64 (x107_3 + 1)))) = some r := by rw [if_pos rfl] at H; exact H
                   clear H
                   have H := H1
                   clear H1
                   by_cases c45 : t377 = 30
                   ·rw [if_pos c45] at H
                    have c45b0 : (t377 == 30) = true := beq_iff_eq.mpr c45
                    have c45b1 : (t377 != 30) = false := bne_eq_false_iff_eq.mpr c45
                    clear c45
                    have H' := Aside0.mk H
                    clear H
                    obtain ⟨Ao46, co46, eo46⟩ := Kd.R_slice HO_16.out
                    subst eo46
                    go_wp2
                    go_roundg kj37
                    case measure => have := HJ5.out; have := HJ16.out; have := HK3.out; have := HJ37.out; omega
                    case rel => exact ⟨(((t376.length : Int) == 0)), (wrap64 (x107_3 + 1)), (by first | rfl | (simp; done) | (simp [*]; done)), (by first | rfl | (simp; done) | (simp [*]; done)), H', ⟨by have := HJ5.out; have := HJ16.out; have := HK3.out; have := HJ37.out; omega⟩, ⟨by (with_reducible repeat (first | apply Kd.R_alloc | apply Kd.R_drewN | apply Kd.R_drew)); exact HO_10.out⟩, ⟨by (with_reducible repeat (first | apply Kd.R_alloc | apply Kd.R_drewN | apply Kd.R_drew)); exact Kd.R_mono HO_105.out (fun _ hk => trivial)⟩, ⟨by repeat (first | (with_reducible first | exact HB.out | apply below_alloc | apply pw_below_drewN | apply below_drew1) | exact HB.out)⟩⟩
                   ·rw [if_neg c45] at H
                    have c45b0 : (t377 == 30) = false := beq_eq_false_iff_ne.mpr c45
                    have c45b1 : (t377 != 30) = true := bne_iff_ne.mpr c45
                    have H' := Aside0.mk H
                    clear H
                    go_wp2
                    go_roundg kj37
                    case measure => have := HJ5.out; have := HJ16.out; have := HK3.out; have := HJ37.out; omega
                    case rel => exact ⟨(false), (wrap64 (x107_3 + 1)), (by first | rfl | (simp; done) | (simp [*]; done)), (by first | rfl | (simp; done) | (simp [*]; done)), H', ⟨by have := HJ5.out; have := HJ16.out; have := HK3.out; have := HJ37.out; omega⟩, ⟨by (with_reducible repeat (first | apply Kd.R_alloc | apply Kd.R_drewN | apply Kd.R_drew)); exact HO_10.out⟩, ⟨by (with_reducible repeat (first | apply Kd.R_alloc | apply Kd.R_drewN | apply Kd.R_drew)); exact Kd.R_mono HO_105.out (fun _ hk => trivial)⟩, ⟨by repeat (first | (with_reducible first | exact HB.out | apply below_alloc | apply pw_below_drewN | apply below_drew1) | exact HB.out)⟩⟩
                  ·replace c44 := Bool.eq_false_iff.mpr c44
                   subst c44
                   have H1 : (cohousinglaw28_FlowExact.l0 kj37 l0 l1 a2 false t358 y372 (y372.length : Int) (wrap64 (x107_3 + 1))) = some r := by rw [if_neg (show ¬ (false = true) by decide)] at H; exact H
                   clear H
                   have H := H1
                   clear H1
                   have H' := Aside0.mk H
                   clear H
                   go_wp2
                   go_roundg kj37
                   case measure => have := HJ5.out; have := HJ16.out; have := HK3.out; have := HJ37.out; omega
                   case rel => exact ⟨(false), (wrap64 (x107_3 + 1)), (by first | rfl | (simp; done) | (simp [*]; done)), (by first | rfl | (simp; done) | (simp [*]; done)), H', ⟨by have := HJ5.out; have := HJ16.out; have := HK3.out; have := HJ37.out; omega⟩, ⟨by (with_reducible repeat (first | apply Kd.R_alloc | apply Kd.R_drewN | apply Kd.R_drew)); exact HO_10.out⟩, ⟨by (with_reducible repeat (first | apply Kd.R_alloc | apply Kd.R_drewN | apply Kd.R_drew)); exact Kd.R_mono HO_105.out (fun _ hk => trivial)⟩, ⟨by repeat (first | (with_reducible first | exact HB.out | apply below_alloc | apply pw_below_drewN | apply below_drew1) | exact HB.out)⟩⟩
                 ·replace c43 := Bool.eq_false_iff.mpr c43
                  subst c43
                  have H1 : (if t377 = 0 then (if (t376.length : Int) = (l0.length : Int) then (if 0 ≤ a2 then (if a2 < (t376.length : Int) then (if (rd t376 a2) = (rd y372 x107_3) then ((cohousinglaw28_consistent.f l0 l1 t376).bind fun t383 => (if t383 = true then (cohousinglaw28_FlowExact.l0 kj37 l0 l1 a2 x9_3 t358 y372 (y372.length : Int) (wrap64 (x107_3 + 1))) else (some false))) else (some false)) else (none)) else (none)) else (some false)) else (some false)) = some r := by rw [if_neg (show ¬ (false = true) by decide)] at H; exact H
                  clear H
                  have H := H1
                  clear H1
                  by_cases c47 : t377 = 0
                  ·rw [if_pos c47] at H
                   have c47b0 : (t377 == 0) = true := beq_iff_eq.mpr c47
                   have c47b1 : (t377 != 0) = false := bne_eq_false_iff_eq.mpr c47
                   clear c47
                   by_cases c48 : (t376.length : Int) = (l0.length : Int)
                   ·rw [if_pos c48] at H
                    have c48b0 : ((t376.length : Int) == (l0.length : Int)) = true := beq_iff_eq.mpr c48
                    have c48b1 : ((t376.length : Int) != (l0.length : Int)) = false := bne_eq_false_iff_eq.mpr c48
                    have c48b2 : (t376.length == l0.length) = true := by first | simpa using c48 | (simp at c48 ⊢; omega)
                    clear c48
                    by_cases c49 : 0 ≤ a2
                    ·rw [if_pos c49] at H
                     have c49b0 : decide (0 ≤ a2) = true := decide_eq_true c49
                     clear c49
                     by_cases c50 : a2 < (t376.length : Int)
                     ·rw [if_pos c50] at H
                      have c50b0 : decide (a2 < (t376.length : Int)) = true := decide_eq_true c50
                      clear c50
                      by_cases c51 : (rd t376 a2) = (rd y372 x107_3)
                      ·rw [if_pos c51] at H
                       have c51b0 : ((rd t376 a2) == (rd y372 x107_3)) = true := beq_iff_eq.mpr c51
                       have c51b1 : ((rd t376 a2) != (rd y372 x107_3)) = false := bne_eq_false_iff_eq.mpr c51
                       clear c51
                       replace H := Option.bind_eq_some_iff.mp H
                       obtain ⟨t383, A520, H⟩ := H
                       replace H : (if t383 = true then (cohousinglaw28_FlowExact.l0 kj37 l0 l1 a2 x9_3 t358 y372 (y372.length : Int) (wrap64 (x107_3 + 1))) else (some false)) = some r := H
                       have A52 := Aside0.mk A520
                       clear A520
                       by_cases c53 : t383 = true
                       ·subst c53
                        have H1 : (cohousinglaw28_FlowExact.l0 kj37 l0 l1 a2 x9_3 t358 y372 (y372.length : Int) (wrap64 (x107_3 + 1))) = some r := by rw [if_pos rfl] at H; exact H
                        clear H
                        have H := H1
                        clear H1
                        have H' := Aside0.mk H
                        clear H
                        obtain ⟨Ao54, co54, eo54⟩ := Kd.R_slice HO_16.out
                        subst eo54
                        have p382 : 0 ≤ (a2 : Int) := of_decide_eq_true (by first | (with_reducible assumption) | assumption)
                        have q382 : a2 < (t376.length : Int) := of_decide_eq_true (by first | (with_reducible assumption) | assumption)
                        obtain ⟨ad382, e382, hx382_0⟩ := Kd.at_int (Kd.R_reads' HO_16.out).2.2 a2 p382 q382
                        cases e382
                        replace p382 := eq_true p382
                        replace q382 := eq_true q382
                        go_wp2_with (first | (go_at_call 22; (with_reducible refine (cohousinglaw28_consistent.calls _ _ l0 _ _ l1 _ _ t376 true _ ?side1 ?side2 ?side3 ?side4 ?side5 ?side6 A52.out).mono ?_); (case side1 => repeat (first | exact (Kd.C_below HR0.out HB.out) | (with_reducible refine Kd.C_alloc ?_ _) | (with_reducible refine Kd.C_drewN ?_ _) | (with_reducible refine Kd.C_drew ?_))); (case side2 => exact HC0.out); (case side3 => repeat (first | exact (Kd.C_below HR1.out HB.out) | (with_reducible refine Kd.C_alloc ?_ _) | (with_reducible refine Kd.C_drewN ?_ _) | (with_reducible refine Kd.C_drew ?_))); (case side4 => exact HC1.out); (case side5 => repeat (first | exact (Kd.R_reads' HO_16.out).2.2 | (with_reducible refine Kd.C_alloc ?_ _) | (with_reducible refine Kd.C_drewN ?_ _) | (with_reducible refine Kd.C_drew ?_))); (case side6 => exact (Kd.R_reads' HO_16.out).2.1); rintro e w55 ⟨rfl, hb⟩; have n0_ := Aside0.mk (Kd.R_below (by (with_reducible repeat (first | apply Kd.R_alloc | apply Kd.R_drewN | apply Kd.R_drew)); exact HO_10.out) hb); have n1_ := Aside0.mk (Kd.R_below (by (with_reducible repeat (first | apply Kd.R_alloc | apply Kd.R_drewN | apply Kd.R_drew)); exact HO_16.out) hb); have n2_ := Aside0.mk (Kd.R_below (by (with_reducible repeat (first | apply Kd.R_alloc | apply Kd.R_drewN | apply Kd.R_drew)); exact HO_105.out) hb); have n3_ := Aside0.mk (below_step (by repeat (first | (with_reducible first | exact HB.out | apply below_alloc | apply pw_below_drewN | apply below_drew1) | exact HB.out)) hb); clear HO_10; clear HO_16; clear HO_105; clear HB; have HO_10 := n0_; have HO_16 := n1_; have HO_105 := n2_; have HB := n3_; clear n0_ n1_ n2_ n3_; (try clear hb); (try clear hb2); (try clear hk); (try clear hi)))
                        go_roundg kj37
                        case measure => have := HJ5.out; have := HJ16.out; have := HK3.out; have := HJ37.out; omega
                        case rel => exact ⟨(x9_3), (wrap64 (x107_3 + 1)), (by first | rfl | (simp; done) | (simp [*]; done)), (by first | rfl | (simp; done) | (simp [*]; done)), H', ⟨by have := HJ5.out; have := HJ16.out; have := HK3.out; have := HJ37.out; omega⟩, ⟨by (with_reducible repeat (first | apply Kd.R_alloc | apply Kd.R_drewN | apply Kd.R_drew)); exact HO_10.out⟩, ⟨by (with_reducible repeat (first | apply Kd.R_alloc | apply Kd.R_drewN | apply Kd.R_drew)); exact Kd.R_mono HO_105.out (fun _ hk => trivial)⟩, ⟨by repeat (first | (with_reducible first | exact HB.out | apply below_alloc | apply pw_below_drewN | apply below_drew1) | exact HB.out)⟩⟩
                       ·replace c53 := Bool.eq_false_iff.mpr c53
                        subst c53
                        have H1 : (some false) = some r := by rw [if_neg (show ¬ (false = true) by decide)] at H; exact H
                        clear H
                        have H := H1
                        clear H1
                        obtain rfl := Option.some.inj H
                        obtain ⟨Ao56, co56, eo56⟩ := Kd.R_slice HO_16.out
                        subst eo56
                        have p382 : 0 ≤ (a2 : Int) := of_decide_eq_true (by first | (with_reducible assumption) | assumption)
                        have q382 : a2 < (t376.length : Int) := of_decide_eq_true (by first | (with_reducible assumption) | assumption)
                        obtain ⟨ad382, e382, hx382_0⟩ := Kd.at_int (Kd.R_reads' HO_16.out).2.2 a2 p382 q382
                        cases e382
                        replace p382 := eq_true p382
                        replace q382 := eq_true q382
                        go_wp2_with (first | (go_at_call 22; (with_reducible refine (cohousinglaw28_consistent.calls _ _ l0 _ _ l1 _ _ t376 false _ ?side1 ?side2 ?side3 ?side4 ?side5 ?side6 A52.out).mono ?_); (case side1 => repeat (first | exact (Kd.C_below HR0.out HB.out) | (with_reducible refine Kd.C_alloc ?_ _) | (with_reducible refine Kd.C_drewN ?_ _) | (with_reducible refine Kd.C_drew ?_))); (case side2 => exact HC0.out); (case side3 => repeat (first | exact (Kd.C_below HR1.out HB.out) | (with_reducible refine Kd.C_alloc ?_ _) | (with_reducible refine Kd.C_drewN ?_ _) | (with_reducible refine Kd.C_drew ?_))); (case side4 => exact HC1.out); (case side5 => repeat (first | exact (Kd.R_reads' HO_16.out).2.2 | (with_reducible refine Kd.C_alloc ?_ _) | (with_reducible refine Kd.C_drewN ?_ _) | (with_reducible refine Kd.C_drew ?_))); (case side6 => exact (Kd.R_reads' HO_16.out).2.1); rintro e w57 ⟨rfl, hb⟩; have n0_ := Aside0.mk (Kd.R_below (by (with_reducible repeat (first | apply Kd.R_alloc | apply Kd.R_drewN | apply Kd.R_drew)); exact HO_10.out) hb); have n1_ := Aside0.mk (Kd.R_below (by (with_reducible repeat (first | apply Kd.R_alloc | apply Kd.R_drewN | apply Kd.R_drew)); exact HO_16.out) hb); have n2_ := Aside0.mk (Kd.R_below (by (with_reducible repeat (first | apply Kd.R_alloc | apply Kd.R_drewN | apply Kd.R_drew)); exact HO_105.out) hb); have n3_ := Aside0.mk (below_step (by repeat (first | (with_reducible first | exact HB.out | apply below_alloc | apply pw_below_drewN | apply below_drew1) | exact HB.out)) hb); clear HO_10; clear HO_16; clear HO_105; clear HB; have HO_10 := n0_; have HO_16 := n1_; have HO_105 := n2_; have HB := n3_; clear n0_ n1_ n2_ n3_; (try clear hb); (try clear hb2); (try clear hk); (try clear hi)))
                        go_ret
                        exact ⟨by first | rfl | (simp [errW_none, errW_some] <;> rfl) | (simp [*, errW_none, errW_some] <;> rfl), by repeat (first | (with_reducible first | exact HB.out | apply below_alloc | apply pw_below_drewN | apply below_drew1) | exact HB.out)⟩
                      ·rw [if_neg c51] at H
                       have c51b0 : ((rd t376 a2) == (rd y372 x107_3)) = false := beq_eq_false_iff_ne.mpr c51
                       have c51b1 : ((rd t376 a2) != (rd y372 x107_3)) = true := bne_iff_ne.mpr c51
                       obtain rfl := Option.some.inj H
                       obtain ⟨Ao58, co58, eo58⟩ := Kd.R_slice HO_16.out
                       subst eo58
                       have p382 : 0 ≤ (a2 : Int) := of_decide_eq_true (by first | (with_reducible assumption) | assumption)
                       have q382 : a2 < (t376.length : Int) := of_decide_eq_true (by first | (with_reducible assumption) | assumption)
                       obtain ⟨ad382, e382, hx382_0⟩ := Kd.at_int (Kd.R_reads' HO_16.out).2.2 a2 p382 q382
                       cases e382
                       replace p382 := eq_true p382
                       replace q382 := eq_true q382
                       go_wp2
                       go_ret
                       exact ⟨by first | rfl | (simp [errW_none, errW_some] <;> rfl) | (simp [*, errW_none, errW_some] <;> rfl), by repeat (first | (with_reducible first | exact HB.out | apply below_alloc | apply pw_below_drewN | apply below_drew1) | exact HB.out)⟩
                     ·rw [if_neg c50] at H
                      exact absurd H (by simp)
                    ·rw [if_neg c49] at H
                     exact absurd H (by simp)
                   ·rw [if_neg c48] at H
                    have c48b0 : ((t376.length : Int) == (l0.length : Int)) = false := beq_eq_false_iff_ne.mpr c48
                    have c48b1 : ((t376.length : Int) != (l0.length : Int)) = true := bne_iff_ne.mpr c48
                    have c48b2 : (t376.length == l0.length) = false := by first | simpa using c48 | (simp at c48 ⊢; omega)
                    obtain rfl := Option.some.inj H
                    obtain ⟨Ao59, co59, eo59⟩ := Kd.R_slice HO_16.out
                    subst eo59
                    go_wp2
                    go_ret
                    exact ⟨by first | rfl | (simp [errW_none, errW_some] <;> rfl) | (simp [*, errW_none, errW_some] <;> rfl), by repeat (first | (with_reducible first | exact HB.out | apply below_alloc | apply pw_below_drewN | apply below_drew1) | exact HB.out)⟩
                  ·rw [if_neg c47] at H
                   have c47b0 : (t377 == 0) = false := beq_eq_false_iff_ne.mpr c47
                   have c47b1 : (t377 != 0) = true := bne_iff_ne.mpr c47
                   obtain rfl := Option.some.inj H
                   go_wp2
                   go_ret
                   exact ⟨by first | rfl | (simp [errW_none, errW_some] <;> rfl) | (simp [*, errW_none, errW_some] <;> rfl), by repeat (first | (with_reducible first | exact HB.out | apply below_alloc | apply pw_below_drewN | apply below_drew1) | exact HB.out)⟩
              ·rw [if_neg c36] at H
               exact absurd H (by simp)
             ·rw [if_neg c35] at H
              exact absurd H (by simp)
            ·rw [if_neg c34] at H
             have c34b0 : decide (x107_3 < (y372.length : Int)) = false := decide_eq_false c34
             clear c34
             obtain rfl := Option.some.inj H
             go_wp2
             go_ret
             exact ⟨by first | rfl | (simp [errW_none, errW_some] <;> rfl) | (simp [*, errW_none, errW_some] <;> rfl), by repeat (first | (with_reducible first | exact HB.out | apply below_alloc | apply pw_below_drewN | apply below_drew1) | exact HB.out)⟩
         ·rw [if_neg c28] at H
          exact absurd H (by simp)
        ·rw [if_neg c27] at H
         exact absurd H (by simp)
    ·rw [if_neg c16] at H
     have c16b0 : (t359 == 0) = false := beq_eq_false_iff_ne.mpr c16
     have c16b1 : (t359 != 0) = true := bne_iff_ne.mpr c16
     replace H := Option.bind_eq_some_iff.mp H
     obtain ⟨⟨t362, t363⟩, A600, H⟩ := H
     replace H : (if t356 = true then (if t359 = 30 then (if t363 = 30 then (some ((t362.length : Int) == 0)) else (some false)) else (some false)) else (some false)) = some r := H
     have A60 := Aside0.mk A600
     clear A600
     by_cases c61 : t356 = true
     ·subst c61
      have H1 : (if t359 = 30 then (if t363 = 30 then (some ((t362.length : Int) == 0)) else (some false)) else (some false)) = some r := by rw [if_pos rfl] at H; exact H
      clear H
      have H := H1
      clear H1
      by_cases c62 : t359 = 30
      ·rw [if_pos c62] at H
       have c62b0 : (t359 == 30) = true := beq_iff_eq.mpr c62
       have c62b1 : (t359 != 30) = false := bne_eq_false_iff_eq.mpr c62
       clear c62
       by_cases c63 : t363 = 30
       ·rw [if_pos c63] at H
        have c63b0 : (t363 == 30) = true := beq_iff_eq.mpr c63
        have c63b1 : (t363 != 30) = false := bne_eq_false_iff_eq.mpr c63
        clear c63
        obtain rfl := Option.some.inj H
        go_wp2_with (first | ((with_reducible refine gate_callee (f := 11) rfl ?_); refine goesL_ (some 37) rfl rfl Try.func11 (by kernel_rfl) rfl #[.slice A0 l0.length c0, .slice A1 l1.length c1] rfl (by (try simp only [List.map_toArray, List.map_cons, List.map_nil]); first | done | rfl | (simp only [List.length_drop, List.length_take]; rfl)) ?_; (with_reducible refine (flow_Bounds.calls _ _ l0 _ _ l1 t358 t359 _ ?side1 ?side2 ?side3 ?side4 A15.out).mono ?_); (case side1 => repeat (first | exact (Kd.C_below HR0.out HB.out) | (with_reducible refine Kd.C_alloc ?_ _) | (with_reducible refine Kd.C_drewN ?_ _) | (with_reducible refine Kd.C_drew ?_))); (case side2 => exact HC0.out); (case side3 => repeat (first | exact (Kd.C_below HR1.out HB.out) | (with_reducible refine Kd.C_alloc ?_ _) | (with_reducible refine Kd.C_drewN ?_ _) | (with_reducible refine Kd.C_drew ?_))); (case side4 => exact HC1.out); rintro e w64 ⟨v360, rfl, ho0, hb⟩; refine ⟨_, rfl, ?_⟩; have n0_ := Aside0.mk (Kd.R_lower ho0 (below_size (by repeat (first | (with_reducible first | exact HB.out | apply below_alloc | apply pw_below_drewN | apply below_drew1) | exact HB.out)))); have n1_ := Aside0.mk (below_step (by repeat (first | (with_reducible first | exact HB.out | apply below_alloc | apply pw_below_drewN | apply below_drew1) | exact HB.out)) hb); clear HB; have HO361 := n0_; have HB := n1_; clear n0_ n1_; (try clear hb); (try clear hb2); (try clear hk); (try clear hi); (try clear ho0)) | ((with_reducible refine gate_callee (f := 18) rfl ?_); refine goesL_ (some 47) rfl rfl Try.func18 (by kernel_rfl) rfl #[.slice A0 l0.length c0, .slice A1 l1.length c1, .int .i64 a2, .int .i64 a3] rfl (by (try simp only [List.map_toArray, List.map_cons, List.map_nil]); first | done | rfl | (simp only [List.length_drop, List.length_take]; rfl)) ?_; (with_reducible refine (flow_State.calls _ _ l0 _ _ l1 a2 a3 t362 t363 _ ?side1 ?side2 ?side3 ?side4 A60.out).mono ?_); (case side1 => repeat (first | exact (Kd.C_below HR0.out HB.out) | (with_reducible refine Kd.C_alloc ?_ _) | (with_reducible refine Kd.C_drewN ?_ _) | (with_reducible refine Kd.C_drew ?_))); (case side2 => exact HC0.out); (case side3 => repeat (first | exact (Kd.C_below HR1.out HB.out) | (with_reducible refine Kd.C_alloc ?_ _) | (with_reducible refine Kd.C_drewN ?_ _) | (with_reducible refine Kd.C_drew ?_))); (case side4 => exact HC1.out); rintro e w65 ⟨v364, rfl, ho0, hb⟩; refine ⟨_, rfl, ?_⟩; have n0_ := Aside0.mk (Kd.R_below (by (with_reducible repeat (first | apply Kd.R_alloc | apply Kd.R_drewN | apply Kd.R_drew)); exact HO361.out) hb); have n1_ := Aside0.mk (Kd.R_lower ho0 (below_size (by repeat (first | (with_reducible first | exact HB.out | apply below_alloc | apply pw_below_drewN | apply below_drew1) | exact HB.out)))); have n2_ := Aside0.mk (below_step (by repeat (first | (with_reducible first | exact HB.out | apply below_alloc | apply pw_below_drewN | apply below_drew1) | exact HB.out)) hb); clear HO361; clear HB; have HO361 := n0_; have HO365 := n1_; have HB := n2_; clear n0_ n1_ n2_; (try clear hb); (try clear hb2); (try clear hk); (try clear hi); (try clear ho0); obtain ⟨Ao66, co66, eo66⟩ := Kd.R_slice HO365.out; subst eo66))
        go_ret
        exact ⟨by first | rfl | (simp [errW_none, errW_some] <;> rfl) | (simp [*, errW_none, errW_some] <;> rfl), by repeat (first | (with_reducible first | exact HB.out | apply below_alloc | apply pw_below_drewN | apply below_drew1) | exact HB.out)⟩
       ·rw [if_neg c63] at H
        have c63b0 : (t363 == 30) = false := beq_eq_false_iff_ne.mpr c63
        have c63b1 : (t363 != 30) = true := bne_iff_ne.mpr c63
        obtain rfl := Option.some.inj H
        go_wp2_with (first | ((with_reducible refine gate_callee (f := 11) rfl ?_); refine goesL_ (some 37) rfl rfl Try.func11 (by kernel_rfl) rfl #[.slice A0 l0.length c0, .slice A1 l1.length c1] rfl (by (try simp only [List.map_toArray, List.map_cons, List.map_nil]); first | done | rfl | (simp only [List.length_drop, List.length_take]; rfl)) ?_; (with_reducible refine (flow_Bounds.calls _ _ l0 _ _ l1 t358 t359 _ ?side1 ?side2 ?side3 ?side4 A15.out).mono ?_); (case side1 => repeat (first | exact (Kd.C_below HR0.out HB.out) | (with_reducible refine Kd.C_alloc ?_ _) | (with_reducible refine Kd.C_drewN ?_ _) | (with_reducible refine Kd.C_drew ?_))); (case side2 => exact HC0.out); (case side3 => repeat (first | exact (Kd.C_below HR1.out HB.out) | (with_reducible refine Kd.C_alloc ?_ _) | (with_reducible refine Kd.C_drewN ?_ _) | (with_reducible refine Kd.C_drew ?_))); (case side4 => exact HC1.out); rintro e w67 ⟨v360, rfl, ho0, hb⟩; refine ⟨_, rfl, ?_⟩; have n0_ := Aside0.mk (Kd.R_lower ho0 (below_size (by repeat (first | (with_reducible first | exact HB.out | apply below_alloc | apply pw_below_drewN | apply below_drew1) | exact HB.out)))); have n1_ := Aside0.mk (below_step (by repeat (first | (with_reducible first | exact HB.out | apply below_alloc | apply pw_below_drewN | apply below_drew1) | exact HB.out)) hb); clear HB; have HO361 := n0_; have HB := n1_; clear n0_ n1_; (try clear hb); (try clear hb2); (try clear hk); (try clear hi); (try clear ho0)) | ((with_reducible refine gate_callee (f := 18) rfl ?_); refine goesL_ (some 47) rfl rfl Try.func18 (by kernel_rfl) rfl #[.slice A0 l0.length c0, .slice A1 l1.length c1, .int .i64 a2, .int .i64 a3] rfl (by (try simp only [List.map_toArray, List.map_cons, List.map_nil]); first | done | rfl | (simp only [List.length_drop, List.length_take]; rfl)) ?_; (with_reducible refine (flow_State.calls _ _ l0 _ _ l1 a2 a3 t362 t363 _ ?side1 ?side2 ?side3 ?side4 A60.out).mono ?_); (case side1 => repeat (first | exact (Kd.C_below HR0.out HB.out) | (with_reducible refine Kd.C_alloc ?_ _) | (with_reducible refine Kd.C_drewN ?_ _) | (with_reducible refine Kd.C_drew ?_))); (case side2 => exact HC0.out); (case side3 => repeat (first | exact (Kd.C_below HR1.out HB.out) | (with_reducible refine Kd.C_alloc ?_ _) | (with_reducible refine Kd.C_drewN ?_ _) | (with_reducible refine Kd.C_drew ?_))); (case side4 => exact HC1.out); rintro e w68 ⟨v364, rfl, ho0, hb⟩; refine ⟨_, rfl, ?_⟩; have n0_ := Aside0.mk (Kd.R_below (by (with_reducible repeat (first | apply Kd.R_alloc | apply Kd.R_drewN | apply Kd.R_drew)); exact HO361.out) hb); have n1_ := Aside0.mk (Kd.R_lower ho0 (below_size (by repeat (first | (with_reducible first | exact HB.out | apply below_alloc | apply pw_below_drewN | apply below_drew1) | exact HB.out)))); have n2_ := Aside0.mk (below_step (by repeat (first | (with_reducible first | exact HB.out | apply below_alloc | apply pw_below_drewN | apply below_drew1) | exact HB.out)) hb); clear HO361; clear HB; have HO361 := n0_; have HO365 := n1_; have HB := n2_; clear n0_ n1_ n2_; (try clear hb); (try clear hb2); (try clear hk); (try clear hi); (try clear ho0)))
        go_ret
        exact ⟨by first | rfl | (simp [errW_none, errW_some] <;> rfl) | (simp [*, errW_none, errW_some] <;> rfl), by repeat (first | (with_reducible first | exact HB.out | apply below_alloc | apply pw_below_drewN | apply below_drew1) | exact HB.out)⟩
      ·rw [if_neg c62] at H
       have c62b0 : (t359 == 30) = false := beq_eq_false_iff_ne.mpr c62
       have c62b1 : (t359 != 30) = true := bne_iff_ne.mpr c62
       obtain rfl := Option.some.inj H
       go_wp2_with (first | ((with_reducible refine gate_callee (f := 11) rfl ?_); refine goesL_ (some 37) rfl rfl Try.func11 (by kernel_rfl) rfl #[.slice A0 l0.length c0, .slice A1 l1.length c1] rfl (by (try simp only [List.map_toArray, List.map_cons, List.map_nil]); first | done | rfl | (simp only [List.length_drop, List.length_take]; rfl)) ?_; (with_reducible refine (flow_Bounds.calls _ _ l0 _ _ l1 t358 t359 _ ?side1 ?side2 ?side3 ?side4 A15.out).mono ?_); (case side1 => repeat (first | exact (Kd.C_below HR0.out HB.out) | (with_reducible refine Kd.C_alloc ?_ _) | (with_reducible refine Kd.C_drewN ?_ _) | (with_reducible refine Kd.C_drew ?_))); (case side2 => exact HC0.out); (case side3 => repeat (first | exact (Kd.C_below HR1.out HB.out) | (with_reducible refine Kd.C_alloc ?_ _) | (with_reducible refine Kd.C_drewN ?_ _) | (with_reducible refine Kd.C_drew ?_))); (case side4 => exact HC1.out); rintro e w69 ⟨v360, rfl, ho0, hb⟩; refine ⟨_, rfl, ?_⟩; have n0_ := Aside0.mk (Kd.R_lower ho0 (below_size (by repeat (first | (with_reducible first | exact HB.out | apply below_alloc | apply pw_below_drewN | apply below_drew1) | exact HB.out)))); have n1_ := Aside0.mk (below_step (by repeat (first | (with_reducible first | exact HB.out | apply below_alloc | apply pw_below_drewN | apply below_drew1) | exact HB.out)) hb); clear HB; have HO361 := n0_; have HB := n1_; clear n0_ n1_; (try clear hb); (try clear hb2); (try clear hk); (try clear hi); (try clear ho0)) | ((with_reducible refine gate_callee (f := 18) rfl ?_); refine goesL_ (some 47) rfl rfl Try.func18 (by kernel_rfl) rfl #[.slice A0 l0.length c0, .slice A1 l1.length c1, .int .i64 a2, .int .i64 a3] rfl (by (try simp only [List.map_toArray, List.map_cons, List.map_nil]); first | done | rfl | (simp only [List.length_drop, List.length_take]; rfl)) ?_; (with_reducible refine (flow_State.calls _ _ l0 _ _ l1 a2 a3 t362 t363 _ ?side1 ?side2 ?side3 ?side4 A60.out).mono ?_); (case side1 => repeat (first | exact (Kd.C_below HR0.out HB.out) | (with_reducible refine Kd.C_alloc ?_ _) | (with_reducible refine Kd.C_drewN ?_ _) | (with_reducible refine Kd.C_drew ?_))); (case side2 => exact HC0.out); (case side3 => repeat (first | exact (Kd.C_below HR1.out HB.out) | (with_reducible refine Kd.C_alloc ?_ _) | (with_reducible refine Kd.C_drewN ?_ _) | (with_reducible refine Kd.C_drew ?_))); (case side4 => exact HC1.out); rintro e w70 ⟨v364, rfl, ho0, hb⟩; refine ⟨_, rfl, ?_⟩; have n0_ := Aside0.mk (Kd.R_below (by (with_reducible repeat (first | apply Kd.R_alloc | apply Kd.R_drewN | apply Kd.R_drew)); exact HO361.out) hb); have n1_ := Aside0.mk (Kd.R_lower ho0 (below_size (by repeat (first | (with_reducible first | exact HB.out | apply below_alloc | apply pw_below_drewN | apply below_drew1) | exact HB.out)))); have n2_ := Aside0.mk (below_step (by repeat (first | (with_reducible first | exact HB.out | apply below_alloc | apply pw_below_drewN | apply below_drew1) | exact HB.out)) hb); clear HO361; clear HB; have HO361 := n0_; have HO365 := n1_; have HB := n2_; clear n0_ n1_ n2_; (try clear hb); (try clear hb2); (try clear hk); (try clear hi); (try clear ho0)))
       go_ret
       exact ⟨by first | rfl | (simp [errW_none, errW_some] <;> rfl) | (simp [*, errW_none, errW_some] <;> rfl), by repeat (first | (with_reducible first | exact HB.out | apply below_alloc | apply pw_below_drewN | apply below_drew1) | exact HB.out)⟩
     ·replace c61 := Bool.eq_false_iff.mpr c61
      subst c61
      have H1 : (some false) = some r := by rw [if_neg (show ¬ (false = true) by decide)] at H; exact H
      clear H
      have H := H1
      clear H1
      obtain rfl := Option.some.inj H
      go_wp2_with (first | ((with_reducible refine gate_callee (f := 11) rfl ?_); refine goesL_ (some 37) rfl rfl Try.func11 (by kernel_rfl) rfl #[.slice A0 l0.length c0, .slice A1 l1.length c1] rfl (by (try simp only [List.map_toArray, List.map_cons, List.map_nil]); first | done | rfl | (simp only [List.length_drop, List.length_take]; rfl)) ?_; (with_reducible refine (flow_Bounds.calls _ _ l0 _ _ l1 t358 t359 _ ?side1 ?side2 ?side3 ?side4 A15.out).mono ?_); (case side1 => repeat (first | exact (Kd.C_below HR0.out HB.out) | (with_reducible refine Kd.C_alloc ?_ _) | (with_reducible refine Kd.C_drewN ?_ _) | (with_reducible refine Kd.C_drew ?_))); (case side2 => exact HC0.out); (case side3 => repeat (first | exact (Kd.C_below HR1.out HB.out) | (with_reducible refine Kd.C_alloc ?_ _) | (with_reducible refine Kd.C_drewN ?_ _) | (with_reducible refine Kd.C_drew ?_))); (case side4 => exact HC1.out); rintro e w71 ⟨v360, rfl, ho0, hb⟩; refine ⟨_, rfl, ?_⟩; have n0_ := Aside0.mk (Kd.R_lower ho0 (below_size (by repeat (first | (with_reducible first | exact HB.out | apply below_alloc | apply pw_below_drewN | apply below_drew1) | exact HB.out)))); have n1_ := Aside0.mk (below_step (by repeat (first | (with_reducible first | exact HB.out | apply below_alloc | apply pw_below_drewN | apply below_drew1) | exact HB.out)) hb); clear HB; have HO361 := n0_; have HB := n1_; clear n0_ n1_; (try clear hb); (try clear hb2); (try clear hk); (try clear hi); (try clear ho0)) | ((with_reducible refine gate_callee (f := 18) rfl ?_); refine goesL_ (some 47) rfl rfl Try.func18 (by kernel_rfl) rfl #[.slice A0 l0.length c0, .slice A1 l1.length c1, .int .i64 a2, .int .i64 a3] rfl (by (try simp only [List.map_toArray, List.map_cons, List.map_nil]); first | done | rfl | (simp only [List.length_drop, List.length_take]; rfl)) ?_; (with_reducible refine (flow_State.calls _ _ l0 _ _ l1 a2 a3 t362 t363 _ ?side1 ?side2 ?side3 ?side4 A60.out).mono ?_); (case side1 => repeat (first | exact (Kd.C_below HR0.out HB.out) | (with_reducible refine Kd.C_alloc ?_ _) | (with_reducible refine Kd.C_drewN ?_ _) | (with_reducible refine Kd.C_drew ?_))); (case side2 => exact HC0.out); (case side3 => repeat (first | exact (Kd.C_below HR1.out HB.out) | (with_reducible refine Kd.C_alloc ?_ _) | (with_reducible refine Kd.C_drewN ?_ _) | (with_reducible refine Kd.C_drew ?_))); (case side4 => exact HC1.out); rintro e w72 ⟨v364, rfl, ho0, hb⟩; refine ⟨_, rfl, ?_⟩; have n0_ := Aside0.mk (Kd.R_below (by (with_reducible repeat (first | apply Kd.R_alloc | apply Kd.R_drewN | apply Kd.R_drew)); exact HO361.out) hb); have n1_ := Aside0.mk (Kd.R_lower ho0 (below_size (by repeat (first | (with_reducible first | exact HB.out | apply below_alloc | apply pw_below_drewN | apply below_drew1) | exact HB.out)))); have n2_ := Aside0.mk (below_step (by repeat (first | (with_reducible first | exact HB.out | apply below_alloc | apply pw_below_drewN | apply below_drew1) | exact HB.out)) hb); clear HO361; clear HB; have HO361 := n0_; have HO365 := n1_; have HB := n2_; clear n0_ n1_ n2_; (try clear hb); (try clear hb2); (try clear hk); (try clear hi); (try clear ho0)))
      go_ret
      exact ⟨by first | rfl | (simp [errW_none, errW_some] <;> rfl) | (simp [*, errW_none, errW_some] <;> rfl), by repeat (first | (with_reducible first | exact HB.out | apply below_alloc | apply pw_below_drewN | apply below_drew1) | exact HB.out)⟩
end Go.Proofs.Ytmojlpafpeeelaa.P
end
section
namespace Go.Proofs.Ytmojlpafpeeelaa.P
open Go.RowKit Go.Proofs.YtmojlpafpeeelaaW.PrintWords Go.Proofs.YtmojlpafpeeelaaW.PrintLast Go.Proofs.YtmojlpafpeeelaaW.PrintMore
attribute [local go_sem] max2_int min2_int max_two min_two max_three min_three max_four min_four
set_option linter.unusedVariables false
set_option linter.unusedSimpArgs false
mutual
def cohousinglaw28_FlowMatchesReference.j0 : Nat → List (S44) → List (S39) → List Int → Int → Int → Bool → Bool → Option (Bool)
 | 0, _, _, _, _, _, _, _ => none
 | k + 1, x0, x1, x2, x3, x4, x11, x28 => if x28 = true then (some x11) else ((flow_Bounds.f x0 x1).bind fun bt312 => ((cohousingref28_Bounds.f k x0 x1).bind fun bt316 => (if x11 = true then ((flow_Valid.f x0).bind fun t320 => ((cohousingref28_Valid.f k x0).bind fun t321 => (if (t320 == t321) = true then ((cohousingref28_Same.f k bt312.1 bt316.1).bind fun t322 => (if t322 = true then (cohousinglaw28_FlowMatchesReference.j1 k x0 x1 x2 x3 x4 (bt312.2 == bt316.2)) else (cohousinglaw28_FlowMatchesReference.j1 k x0 x1 x2 x3 x4 false))) else (cohousinglaw28_FlowMatchesReference.j1 k x0 x1 x2 x3 x4 false)))) else (cohousinglaw28_FlowMatchesReference.j1 k x0 x1 x2 x3 x4 false))))
def cohousinglaw28_FlowMatchesReference.j1 : Nat → List (S44) → List (S39) → List Int → Int → Int → Bool → Option (Bool)
 | 0, _, _, _, _, _, _ => none
 | k + 1, x0, x1, x2, x3, x4, x11 => (flow_Consistent.f x0 x1 x2).bind fun bt323 => ((cohousingref28_Consistent.f k x0 x1 x2).bind fun bt325 => (if x11 = true then (if (bt323.1 == bt325.1) = true then ((flow_State.f x0 x1 x3 x4).bind fun bt327 => ((cohousingref28_State.f k x0 x1 x3 x4).bind fun bt331 => (if bt323.2 = bt325.2 then ((cohousingref02_Same.f k bt327.1 bt331.1).bind fun t335 => (if t335 = true then (some (bt327.2 == bt331.2)) else (some false))) else (some false)))) else ((flow_State.f x0 x1 x3 x4).bind fun bt336 => ((cohousingref28_State.f k x0 x1 x3 x4).bind fun bt340 => (some false)))) else ((flow_State.f x0 x1 x3 x4).bind fun bt344 => ((cohousingref28_State.f k x0 x1 x3 x4).bind fun bt348 => (some false)))))
end
end Go.Proofs.Ytmojlpafpeeelaa.P
end
section
namespace Go.Proofs.Ytmojlpafpeeelaa.P
open Go.RowKit Go.Proofs.YtmojlpafpeeelaaW.PrintWords Go.Proofs.YtmojlpafpeeelaaW.PrintLast Go.Proofs.YtmojlpafpeeelaaW.PrintMore Go.Proofs.YtmojlpafpeeelaaH Go.Proofs.FlowTree
open Classical
theorem Ev.of_mono {α : Type} {f : Nat → Option α} {r : α} (k0 : Nat) (h0 : f k0 = some r) (h : ∀ k, LeO (f k) (f (k + 1))) : Ev f r := by
 refine ⟨k0, fun k hk => ?_⟩
 obtain ⟨d, rfl⟩ : ∃ d, k = k0 + d := ⟨k - k0, by omega⟩
 induction d with
 | zero => exact h0
 | succ d ih => exact h _ _ (ih (by omega))
theorem head_ev : Ev (fun k => cohousinglaw28_head.f k) true := Ev.of_mono 40 (by kernel_rfl) (fun k => cohousinglaw28_head.mono k)
theorem B_f (l : List PI) (r : List RG) (x : List Int) (hl : l.length ≤ 5864062014805) (hr : r.length ≤ 140737488355328) (hx : x.length ≤ 17592186044416) : flow_Bounds.f l r = some (boundsR l r) := by unfold flow_Bounds.f; rw [if_pos ⟨hl, hr⟩]
theorem S_f (l : List PI) (r : List RG) (x : List Int) (hl : l.length ≤ 5864062014805) (hr : r.length ≤ 140737488355328) (hx : x.length ≤ 17592186044416) (i v : Int) : flow_State.f l r i v = some (stateR l r i v) := by unfold flow_State.f; rw [if_pos ⟨hl, hr⟩]
theorem C_f (l : List PI) (r : List RG) (x : List Int) (hl : l.length ≤ 5864062014805) (hr : r.length ≤ 140737488355328) (hx : x.length ≤ 17592186044416) : flow_Consistent.f l r x = some (consR l r x) := by unfold flow_Consistent.f; rw [if_pos ⟨hl, hr, hx⟩]
theorem V_f (l : List PI) (r : List RG) (x : List Int) (hl : l.length ≤ 5864062014805) (hr : r.length ≤ 140737488355328) (hx : x.length ≤ 17592186044416) : flow_Valid.f l = some (decide (okL l ∧ l.length ≤ 200)) := by unfold flow_Valid.f; rw [if_pos hl, valid_iff]
section
variable (l : List PI) (r : List RG) (x : List Int) (hl : l.length ≤ 5864062014805) (hr : r.length ≤ 140737488355328) (hx : x.length ≤ 17592186044416)
include hl hr hx
end
end Go.Proofs.Ytmojlpafpeeelaa.P
end
section
namespace Go.Proofs.Ytmojlpafpeeelaa.P
open Go.RowKit Go.Proofs.YtmojlpafpeeelaaW.PrintWords Go.Proofs.YtmojlpafpeeelaaW.PrintLast Go.Proofs.YtmojlpafpeeelaaW.PrintMore
attribute [local go_sem] max2_int min2_int max_two min_two max_three min_three max_four min_four
set_option linter.unusedVariables false
set_option linter.unusedSimpArgs false
mutual
def cohousinglaw28_FlowWithin.j0 : Nat → List (S44) → List (S39) → List Int → Bool → Bool → Option (Bool)
 | 0, _, _, _, _, _ => none
 | k + 1, x0, x1, x2, x7, x21 => if x21 = true then (some x7) else ((flow_Bounds.f x0 x1).bind fun bt386 => (if bt386.2 = 0 then (if (bt386.1.length : Int) = (x2.length : Int) then (cohousinglaw28_FlowWithin.j1 k x1 x2 x7 bt386.1 ((x1.length : Int) != (x2.length : Int))) else (cohousinglaw28_FlowWithin.j1 k x1 x2 x7 bt386.1 true)) else (cohousinglaw28_FlowWithin.j1 k x1 x2 x7 bt386.1 true)))
def cohousinglaw28_FlowWithin.j1 : Nat → List (S39) → List Int → Bool → List (S39) → Bool → Option (Bool)
 | 0, _, _, _, _, _ => none
 | k + 1, x1, x2, x7, x8, x44 => if x44 = true then (some false) else (cohousinglaw28_FlowWithin.l0 k x1 x2 x7 x8 (x2.length : Int) 0)
def cohousinglaw28_FlowWithin.l0 : Nat → List (S39) → List Int → Bool → List (S39) → Int → Int → Option (Bool)
 | 0, _, _, _, _, _, _ => none
 | k + 1, x1, x2, x7, x8, x46, x47 => if x47 < x46 then (if x7 = true then (if 0 ≤ x47 then (if x47 < (x8.length : Int) then (if x47 < (x2.length : Int) then (if ((rd_T39 x8 x47).f0) ≤ (rd x2 x47) then (if (rd x2 x47) ≤ ((rd_T39 x8 x47).f1) then (if x47 < (x1.length : Int) then (if ((rd_T39 x1 x47).f0) ≤ ((rd_T39 x8 x47).f0) then (cohousinglaw28_FlowWithin.l0 k x1 x2 (decide (((rd_T39 x8 x47).f1) ≤ ((rd_T39 x1 x47).f1))) x8 x46 (wrap64 (x47 + 1))) else (cohousinglaw28_FlowWithin.l0 k x1 x2 false x8 x46 (wrap64 (x47 + 1)))) else (none)) else (cohousinglaw28_FlowWithin.l0 k x1 x2 false x8 x46 (wrap64 (x47 + 1)))) else (cohousinglaw28_FlowWithin.l0 k x1 x2 false x8 x46 (wrap64 (x47 + 1)))) else (none)) else (none)) else (none)) else (cohousinglaw28_FlowWithin.l0 k x1 x2 false x8 x46 (wrap64 (x47 + 1)))) else (some x7)
end
end Go.Proofs.Ytmojlpafpeeelaa.P
end
section
namespace Go.Proofs.Ytmojlpafpeeelaa.P
open Go.RowKit Go.Proofs.YtmojlpafpeeelaaW.PrintWords Go.Proofs.YtmojlpafpeeelaaW.PrintLast Go.Proofs.YtmojlpafpeeelaaW.PrintMore
attribute [local go_sem] max2_int min2_int max_two min_two max_three min_three max_four min_four
set_option linter.unusedVariables false
set_option linter.unusedSimpArgs false
mutual
def cohousinglaw28_FlowFirst.j0 : Nat → List (S44) → List (S39) → List Int → Int → Bool → Bool → Option (Bool)
 | 0, _, _, _, _, _, _ => none
 | k + 1, x0, x1, x2, x3, x9, x33 => if x33 = true then (some x9) else (if 0 ≤ x3 then (if x3 < (x2.length : Int) then ((flow_State.f x0 x1 x3 (rd x2 x3)).bind fun bt449 => (if bt449.2 = 0 then (cohousinglaw28_FlowFirst.j1 k x2 x9 bt449.1 ((bt449.1.length : Int) != (x2.length : Int))) else (cohousinglaw28_FlowFirst.j1 k x2 x9 bt449.1 true))) else (none)) else (none))
def cohousinglaw28_FlowFirst.j1 : Nat → List Int → Bool → List Int → Bool → Option (Bool)
 | 0, _, _, _, _ => none
 | k + 1, x2, x9, x10, x54 => if x54 = true then (some false) else (cohousinglaw28_FlowFirst.l0 k x2 x9 x10 (x2.length : Int) 0)
def cohousinglaw28_FlowFirst.l0 : Nat → List Int → Bool → List Int → Int → Int → Option (Bool)
 | 0, _, _, _, _, _ => none
 | k + 1, x2, x9, x10, x56, x57 => if x57 < x56 then (if 0 ≤ x57 then (if x57 < (x2.length : Int) then (if x57 < (x10.length : Int) then (if (rd x2 x57) = (rd x10 x57) then (cohousinglaw28_FlowFirst.l0 k x2 x9 x10 x56 (wrap64 (x57 + 1))) else (if x9 = true then (some (decide ((rd x10 x57) < (rd x2 x57)))) else (some false))) else (none)) else (none)) else (none)) else (some x9)
end
end Go.Proofs.Ytmojlpafpeeelaa.P
end
section
namespace Go.Proofs.Ytmojlpafpeeelaa.P
open Go.RowKit Go.Proofs.YtmojlpafpeeelaaW.PrintWords Go.Proofs.YtmojlpafpeeelaaW.PrintLast Go.Proofs.YtmojlpafpeeelaaW.PrintMore Go.Proofs.YtmojlpafpeeelaaH Go.Proofs.FlowTree
open Classical
def Cons (l : List PI) (r : List RG) (x : List Int) : Prop := Good l r ∧ x.length = l.length ∧ Sol (netT l) (lo9 r) (hi9 r) (fx x)
section
variable (l : List PI) (r : List RG) (x : List Int) (hl : l.length ≤ 5864062014805) (hr : r.length ≤ 140737488355328) (hx : x.length ≤ 17592186044416)
theorem consistent_f (l : List PI) (r : List RG) (x : List Int) (hl : l.length ≤ 5864062014805) (hr : r.length ≤ 140737488355328) (hx : x.length ≤ 17592186044416) : cohousinglaw28_consistent.f l r x = some (decide (Cons l r x)) := by
 unfold cohousinglaw28_consistent.f
 rw [C_f l r x hl hr hx, Option.bind_some, consR_is]
 by_cases hg : Good l r ∧ x.length = l.length
 ·rw [if_pos hg]
  by_cases hs : Sol (netT l) (lo9 r) (hi9 r) (fx x)
  ·rw [decide_eq_true hs, decide_eq_true (show Cons l r x from ⟨hg.1, hg.2, hs⟩)]
   rfl
  ·rw [decide_eq_false hs, decide_eq_false (show ¬ Cons l r x from fun h => hs h.2.2)]
   rfl
 ·rw [if_neg hg, decide_eq_false (show ¬ Cons l r x from fun h => hg ⟨h.1, h.2.1⟩)]
  rfl
theorem right_f (l : List PI) (r : List RG) (hl : l.length ≤ 5864062014805) (hr : r.length ≤ 140737488355328) : cohousinglaw28_right.f l r = some (decide (l.length ≤ 40 ∧ Good l r)) := by
 have hbel : cohousingref28_Belongs.f l r = some (belongsB l.length r) := by unfold cohousingref28_Belongs.f; rw [if_pos ⟨by omega, hr⟩]
 unfold cohousinglaw28_right.f
 rw [V_f l r [] hl hr (by simp), hbel]
 simp only [Option.bind_some]
 by_cases h40 : l.length ≤ 40
 ·have h1 : (l.length : Int) ≤ 40 := by omega
  simp only [h1, if_true]
  by_cases hv : okL l ∧ l.length ≤ 200
  ·rw [decide_eq_true hv]
   simp only [if_true]
   by_cases hb : belongsB l.length r = true
   ·rw [hb, decide_eq_true ⟨h40, (good_iff l r).2 ⟨hv, hb⟩⟩]
   ·rw [decide_eq_false (fun h => hb ((good_iff l r).1 h.2).2)]
    rw [Bool.not_eq_true] at hb
    rw [hb]
  ·rw [decide_eq_false hv, decide_eq_false (fun h => hv ((good_iff l r).1 h.2).1)]
   simp
 ·have h1 : ¬ (l.length : Int) ≤ 40 := by omega
  simp only [h1, if_false]
  rw [decide_eq_false (fun h => h40 h.1)]
theorem exact_l0 {l : List PI} {r : List RG} (hl : l.length ≤ 5864062014805) (hr : r.length ≤ 140737488355328) (hg : Good l r) {d : List IV} (hd : Exact l (lo9 r) (hi9 r) d) {i : Nat} (hi : i < l.length) (y : List Int) (hy : y.length ≤ 1000) : ∀ (n j : Nat), j + n = y.length →
  Ev (fun k => cohousinglaw28_FlowExact.l0 k l r (i : Int) true (d.map toR) y (y.length : Int) (j : Int)) true := by
 have hn := hg.n
 intro n
 induction n with
 | zero =>
  intro j hj
  have h1 : ¬ ((j : Int) < (y.length : Int)) := by omega
  refine Ev.step ?_
  simp only [cohousinglaw28_FlowExact.l0, h1, if_false]
  exact Ev.pure _
 | succ n ih =>
  intro j hj
  have h1 : ((j : Int) < (y.length : Int)) := by omega
  have h2 : (0 : Int) ≤ (j : Int) := by omega
  have h3 : (0 : Int) ≤ (i : Int) := by omega
  have h4 : ((i : Int) < ((d.map toR).length : Int)) := by rw [List.length_map, hd.len]; omega
  have h5 : ((i : Int) < (l.length : Int)) := by omega
  have e1 : (rd_T39 (d.map toR) (i : Int)).f0 = Lo d i := congrFun (lo_map d) i
  have e2 : (rd_T39 (d.map toR) (i : Int)).f1 = Hi d i := congrFun (hi_map d) i
  obtain ⟨v, hv⟩ : ∃ v, v = rd y (j : Int) := ⟨_, rfl⟩
  have hrec := ih (j + 1) (by omega)
  have hw := wrap_nat (show j ≤ 140737488355328 by omega)
  have hst := (stateR_is l r i v).1
  generalize hq : stateR l r i v = q at hst
  have hS := S_f l r [] hl hr (by simp) i v
  rw [hq] at hS
  have hpre : ∀ b : Bool, b = decide (v < Lo d i ∨ v > Hi d i) → Ev (fun k => cohousinglaw28_FlowExact.j3 k l r (i : Int) true (d.map toR) v q.1 q.2 y (y.length : Int) (j : Int) b) true → Ev (fun k => cohousinglaw28_FlowExact.l0 k l r (i : Int) true (d.map toR) y (y.length : Int) (j : Int)) true := by
   intro b hb h
   refine Ev.step ?_
   simp only [cohousinglaw28_FlowExact.l0, h1, h2, h3, h4, if_true, ← hv, hS, Option.bind_some, e1, e2]
   by_cases c : v < Lo d i
   ·simp only [c, if_true]
    rw [hb, decide_eq_true (.inl c)] at h
    exact h
   ·simp only [c, if_false]
    rw [show decide (v > Hi d i) = b by rw [hb]; exact decide_eq_decide.2 ⟨fun h => .inr h, fun h => h.resolve_left c⟩]
    exact h
  by_cases hin : v < Lo d i ∨ v > Hi d i
  ·have hno : ¬ ∃ x, Sol (netT l) (lo9 r) (hi9 r) x ∧ x i = v := fun ⟨x, hx, e⟩ => by have := hd.sol x hx i hi; omega
   refine hpre true (decide_eq_true hin).symm ?_
   refine Ev.step ?_
   cases hst with
   | arg h => exact absurd ⟨hg, h3, h5⟩ h
   | flow _ _ _ _ =>
    simp only [cohousinglaw28_FlowExact.j3, if_true, hw]
    exact hrec
   | ok x _ _ _ _ hs e _ => exact absurd ⟨fx x, hs, by rw [Int.toNat_natCast] at e; exact e⟩ hno
  ·refine hpre false (decide_eq_false hin).symm ?_
   refine Ev.step ?_
   have hyes := hd.had i hi v (by omega) (by omega)
   cases hst with
   | arg h => exact absurd ⟨hg, h3, h5⟩ h
   | flow _ _ _ h => exact absurd (by obtain ⟨x, a, b⟩ := hyes; exact ⟨x, a, by rw [Int.toNat_natCast]; exact b⟩) h
   | ok x _ _ _ hxl hs e _ =>
    have hC := consistent_f l r x hl hr (by omega)
    rw [decide_eq_true (show Cons l r x from ⟨hg, hxl, hs⟩)] at hC
    have c1 : ((x.length : Int)) = (l.length : Int) := by rw [hxl]
    have c2 : ((i : Int) < (l.length : Int)) := h5
    have c3 : rd x (i : Int) = v := by rw [Int.toNat_natCast] at e; exact e
    simp only [cohousinglaw28_FlowExact.j3, Bool.false_eq_true, if_false, if_true, c1, h3, c2, c3, hC, Option.bind_some, hw]
    exact hrec
theorem exact_ (l : List PI) (r : List RG) (hl : l.length ≤ 5864062014805) (hr : r.length ≤ 140737488355328) (i v : Int) : Ev (fun k => cohousinglaw28_FlowExact.f k l r i v) true := by
 have hout : ∀ c : Bool, c = true → Ev (fun k => cohousinglaw28_FlowExact.j0 k l r i v true c) true := by
  intro c hc
  refine Ev.step ?_
  simp only [cohousinglaw28_FlowExact.j0, hc, if_true]
  exact Ev.pure _
 unfold cohousinglaw28_FlowExact.f
 refine Ev.bnd head_ev ?_
 simp only [right_f l r hl hr, Option.bind_some]
 by_cases hg : l.length ≤ 40 ∧ Good l r
 case neg =>
  rw [decide_eq_false hg]
  simp only [Bool.false_eq_true, if_false]
  exact hout _ rfl
 rw [decide_eq_true hg]
 simp only [if_true]
 by_cases hi0 : i < 0
 ·simp only [hi0, if_true]
  exact hout _ rfl
 simp only [hi0, if_false]
 by_cases hi1 : (l.length : Int) ≤ i
 ·rw [show decide (i ≥ (l.length : Int)) = true from decide_eq_true hi1]
  exact hout _ rfl
 rw [show decide (i ≥ (l.length : Int)) = false from decide_eq_false hi1]
 obtain ⟨n, rfl⟩ : ∃ n : Nat, i = n := ⟨i.toNat, by omega⟩
 have h3 : (0 : Int) ≤ (n : Int) := by omega
 have h5 : ((n : Int) < (l.length : Int)) := by omega
 have hbi := boundsR_is l r
 generalize hb : boundsR l r = q at hbi
 have hB := B_f l r [] hl hr (by simp)
 rw [hb] at hB
 refine Ev.step ?_
 simp only [cohousinglaw28_FlowExact.j0, Bool.false_eq_true, if_false, hB, Option.bind_some]
 cases hbi with
 | arg h => exact absurd hg.2 h
 | flow _ hno =>
  have hst := (stateR_is l r (n : Int) v).1
  generalize hq : stateR l r (n : Int) v = q at hst
  have hS := S_f l r [] hl hr (by simp) (n : Int) v
  rw [hq] at hS
  simp only [hS, Option.bind_some]
  cases hst with
  | arg h => exact absurd ⟨hg.2, h3, h5⟩ h
  | flow _ _ _ _ => exact ⟨0, fun k _ => rfl⟩
  | ok x _ _ _ _ hs _ _ => exact absurd ⟨_, hs⟩ hno
 | ok d _ hd =>
  have hn := hg.2.n
  have c1 : (((d.map toR).length : Nat) : Int) = (l.length : Int) := by rw [List.length_map, hd.len]
  have e1 : (rd_T39 (d.map toR) (n : Int)).f0 = Lo d n := congrFun (lo_map d) n
  have e2 : (rd_T39 (d.map toR) (n : Int)).f1 = Hi d n := congrFun (hi_map d) n
  have hrn := hd.rng n (by omega)
  have c2 : decide (Lo d n > Hi d n) = false := decide_eq_false (by omega)
  simp only [if_true, c1, h3, h5, e1, e2, c2]
  refine Ev.step ?_
  simp only [cohousinglaw28_FlowExact.j1, Bool.false_eq_true, if_false, h3, c1, h5, if_true, Option.bind_some]
  exact exact_l0 hl hr hg.2 hd (by omega) _ (by simp) _ 0 (Nat.zero_add _)
end
end Go.Proofs.Ytmojlpafpeeelaa.P
end
