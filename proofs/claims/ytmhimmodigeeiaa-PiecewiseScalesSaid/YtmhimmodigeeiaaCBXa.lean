/- Part 1 of the proof of PiecewiseScales: what it alone needs. -/
import Derived.Test.YtmhimmodigeeiaaCBj
set_option linter.unusedVariables false
set_option linter.unusedSimpArgs false
section
namespace Go.Proofs.Ytmhimmodigeeiaa.P
open Go.RowKit Go.Proofs.YtmhimmodigeeiaaW.PrintWords Go.Proofs.YtmhimmodigeeiaaW.PrintLast Go.Proofs.YtmhimmodigeeiaaW.PrintMore
attribute [local go_sem] max2_int min2_int max_two min_two max_three min_three max_four min_four
set_option linter.unusedVariables false
set_option linter.unusedSimpArgs false
set_option maxHeartbeats 8000000
set_option maxRecDepth 100000
section
attribute [local go_sem high] eqA24
def cohousinglaw05_PiecewiseScales.j0 : Nat → List (S51) → Int → Bool → Bool → Int → Int → Option (Bool)
 | 0, _, _, _, _, _, _ => none
 | k + 1, x0, x2, x7, x36, x683000, x683001 => if x36 = true then (some x7) else ((cohousinglaw05_place.f x2).bind fun t686 => ((piecewise_Scale.f k x0 x683000 x683001).bind fun bt687 => (if bt687.2 = 0 then ((cohousingref05_Value.f k x0 t686).bind fun bt691 => (if x7 = true then ((cohousingref05_Valid.f k bt687.1).bind fun t694 => (if t694 = true then ((cohousingref05_Value.f k bt687.1 t686).bind fun bt695 => ((cohousingref05_Reduce.f k (wrap64 (bt691.1 * x683000)) (wrap64 (bt691.2 * x683001))).bind fun bt697 => (some (bt695.1 == bt697.1 && (bt695.2 == bt697.2))))) else (some false))) else (some false))) else (if x7 = true then (if bt687.2 = 3 then (some ((bt687.1.length : Int) == 0)) else (some false)) else (some false)))))
def cohousinglaw05_PiecewiseScales.f (k : Nat) (l0 : List (S51)) (a1_0 : Int) (a1_1 : Int) (a2 : Int) : Option (Bool) := (cohousinglaw05_head.f k).bind fun t683 => ((cohousinglaw05_both.f k l0 l0).bind fun t684 => (if t684 = true then ((cohousingref01_Valid.f k a1_0 a1_1).bind fun t685 => (if t685 = true then (if a1_0 > 1000 then (cohousinglaw05_PiecewiseScales.j0 k l0 a2 t683 true a1_0 a1_1) else (if a1_0 < (-1000) then (cohousinglaw05_PiecewiseScales.j0 k l0 a2 t683 true a1_0 a1_1) else (cohousinglaw05_PiecewiseScales.j0 k l0 a2 t683 (decide (a1_1 > 1000)) a1_0 a1_1))) else (cohousinglaw05_PiecewiseScales.j0 k l0 a2 t683 true a1_0 a1_1))) else (cohousinglaw05_PiecewiseScales.j0 k l0 a2 t683 true a1_0 a1_1)))
def cohousinglaw05_PiecewiseScales.T9 : Bool × List (List Nat × List Nat) := (true, [([], []), ([0], [0]), ([1], [1]), ([2, 1, 1], [1, 2]), ([1, 3], [1, 3]), ([4, 3], [4]), ([5], [5]), ([5], [5]), ([6, 7, 5, 5], [5, 6, 7]), ([5], [5]), ([9, 5], [5, 9]), ([5], [5]), ([11, 5], [5, 11]), ([10, 12, 5], [5, 10, 12]), ([5], [5]), ([14, 5], [5, 14]), ([5], [5]), ([16, 5], [5, 16]), ([15, 17, 5], [5, 15, 17]), ([13, 18, 8, 5], [5, 13, 18]), ([8, 19, 5], [5, 8, 19]), ([5, 20], [5, 20]), ([21, 19, 0, 1, 2, 3, 4, 5, 6, 7, 8, 9, 10, 11, 12, 13, 14, 15, 16, 17, 18, 19, 20, 21], [21])])
def cohousinglaw05_PiecewiseScales.B9 : List Nat := [0, 1, 3, 7, 15, 31, 63, 63, 255, 63, 575, 63, 2111, 7743, 63, 16447, 63, 65599, 245823, 524287, 1048575, 2097151, 4194303]
theorem cohousinglaw05_PiecewiseScales.tab9 : rtab .any (opsOf Try.f9 9) = cohousinglaw05_PiecewiseScales.T9 := by kernel_rfl
theorem cohousinglaw05_PiecewiseScales.bits9 : waitsOk cohousinglaw05_PiecewiseScales.T9.2 cohousinglaw05_PiecewiseScales.B9 = true := by kernel_rfl
theorem cohousinglaw05_PiecewiseScales.calls (k : Nat) (A0 : Option Addr) (c0 : Nat) (l0 : List (S51)) (a1_0 : Int) (a1_1 : Int) (a2 : Int) (r : Bool) (w : World) (hr0 : Kd.C k51 w A0 l0.length l0) (hc0 : l0.length ≤ c0) (h : cohousinglaw05_PiecewiseScales.f k l0 a1_0 a1_1 a2 = some r) :
  Calls Try.prog 9 #[.slice A0 l0.length c0, .agg #[.int .i64 a1_0, .int .i64 a1_1], .int .u32 a2] w fun e w' => e = .returned (.bool r) ∧ Below w.heap.size w w' := by
 have hu24 := Try.underlying24
 have HR0 := mk_ hr0
 have HC0 := mk_ hc0
 clear hr0 hc0
 have HB := mk_ (Below.refl w.heap.size w)
 have H : ((cohousinglaw05_head.f k).bind fun t683 => ((cohousinglaw05_both.f k l0 l0).bind fun t684 => (if t684 = true then ((cohousingref01_Valid.f k a1_0 a1_1).bind fun t685 => (if t685 = true then (if a1_0 > 1000 then (cohousinglaw05_PiecewiseScales.j0 k l0 a2 t683 true a1_0 a1_1) else (if a1_0 < (-1000) then (cohousinglaw05_PiecewiseScales.j0 k l0 a2 t683 true a1_0 a1_1) else (cohousinglaw05_PiecewiseScales.j0 k l0 a2 t683 (decide (a1_1 > 1000)) a1_0 a1_1))) else (cohousinglaw05_PiecewiseScales.j0 k l0 a2 t683 true a1_0 a1_1))) else (cohousinglaw05_PiecewiseScales.j0 k l0 a2 t683 true a1_0 a1_1)))) = some r := h
 clear h
 replace H := Option.bind_eq_some_iff.mp H
 obtain ⟨t683, A40, H⟩ := H
 replace H : ((cohousinglaw05_both.f k l0 l0).bind fun t684 => (if t684 = true then ((cohousingref01_Valid.f k a1_0 a1_1).bind fun t685 => (if t685 = true then (if a1_0 > 1000 then (cohousinglaw05_PiecewiseScales.j0 k l0 a2 t683 true a1_0 a1_1) else (if a1_0 < (-1000) then (cohousinglaw05_PiecewiseScales.j0 k l0 a2 t683 true a1_0 a1_1) else (cohousinglaw05_PiecewiseScales.j0 k l0 a2 t683 (decide (a1_1 > 1000)) a1_0 a1_1))) else (cohousinglaw05_PiecewiseScales.j0 k l0 a2 t683 true a1_0 a1_1))) else (cohousinglaw05_PiecewiseScales.j0 k l0 a2 t683 true a1_0 a1_1))) = some r := H
 have A4 := mk_ A40
 clear A40
 have HC5 := mk_ H
 clear H
 go_enter Try.func9, Try.ntmps9
 go_upto_region 2 with (first | ((with_reducible refine gate_dst (N := 4) rfl ?_); (try (refine gate_guard (by rfl) ?_; dsimp only)); refine box_event ?hg (N := 4) ?hd (cs := #[.int .i64 a1_0, .int .i64 a1_1]) (t := 24) ?hr ?_; (case hd => rfl); (case hg => rfl); (case hr => first | (go_simp; done) | (go_simp; rfl)); intro gb682 hg w6 hbox hb; have n0_ := mk_ (below_step (bb_ HB) hb); have n1_ := mk_ (hbox); have n2_ := mk_ (bz_ hg (bb_ HB)); have n3_ := mk_ (bz_ hg (bb_ HB)); clear HB; revert n0_ n1_ n2_ n3_; intro HB BK682 GW682 GE682; clear hb hbox hg) | ((with_reducible refine gate_callee (f := 10) rfl ?_); refine gl_ (some 12) Try.func10 #[] ?_; (with_reducible refine (cohousinglaw05_head.calls k  t683 _ A4.out).mono ?_); rintro e w7 ⟨rfl, hb⟩; refine ⟨_, rfl, ?_⟩; have n0_ := mk_ (blk_below (kk_ BK682) hb); have n1_ := mk_ (below_step (bs_ HB GE682.out) hb); clear BK682 HB; revert n0_ n1_; intro BK682 HB; (try clear hb); (try clear hb2); (try clear hk); (try clear hi)))
 (try simp only [Act.put, sI_, s0_, sS_])
 go_cut [36] (fun v36 wc => ∃ (kq : Nat) (x36_4 : Bool), v36 = .bool x36_4 ∧ Aside0 (cohousinglaw05_PiecewiseScales.j0 kq l0 a2 t683 x36_4 a1_0 a1_1 = some r) ∧ Aside0 (kq ≤ k) ∧ Aside0 (wc.heap[gb682]? = some (.cells #[.int .i64 a1_0, .int .i64 a1_1] 24 (0, 0))) ∧ Aside0 (Below w.heap.size w wc))
 case first =>
  have H := HC5.out
  clear HC5
  replace H := Option.bind_eq_some_iff.mp H
  obtain ⟨t684, A80, H⟩ := H
  replace H : (if t684 = true then ((cohousingref01_Valid.f k a1_0 a1_1).bind fun t685 => (if t685 = true then (if a1_0 > 1000 then (cohousinglaw05_PiecewiseScales.j0 k l0 a2 t683 true a1_0 a1_1) else (if a1_0 < (-1000) then (cohousinglaw05_PiecewiseScales.j0 k l0 a2 t683 true a1_0 a1_1) else (cohousinglaw05_PiecewiseScales.j0 k l0 a2 t683 (decide (a1_1 > 1000)) a1_0 a1_1))) else (cohousinglaw05_PiecewiseScales.j0 k l0 a2 t683 true a1_0 a1_1))) else (cohousinglaw05_PiecewiseScales.j0 k l0 a2 t683 true a1_0 a1_1)) = some r := H
  have A8 := mk_ A80
  clear A80
  by_cases c9 : t684 = true
  rotate_left
  ·replace c9 := Bool.eq_false_iff.mpr c9
   subst c9
   have H1 : (cohousinglaw05_PiecewiseScales.j0 k l0 a2 t683 true a1_0 a1_1) = some r := by rw [if_neg (show ¬ (false = true) by decide)] at H; exact H
   clear H
   have H := H1
   clear H1
   have H' := mk_ H
   clear H
   go_wp2_with (first | ((with_reducible refine gate_callee (f := 25) rfl ?_); refine gl_ (some 15) Try.func25 #[.slice A0 l0.length c0, .slice A0 l0.length c0] ?_; (with_reducible refine (cohousinglaw05_both.calls k _ _ l0 _ _ l0 false _ ?side1 ?side2 ?side3 ?side4 A8.out).mono ?_); (case side1 => exact cc_ ((Kd.C_below HR0.out HB.out))); (case side2 => exact HC0.out); (case side3 => exact cc_ ((Kd.C_below HR0.out HB.out))); (case side4 => exact HC0.out); rintro e w29 ⟨rfl, hb⟩; refine ⟨_, rfl, ?_⟩; have n0_ := mk_ (blk_below (kk_ BK682) hb); have n1_ := mk_ (below_step (bs_ HB GE682.out) hb); clear BK682 HB; revert n0_ n1_; intro BK682 HB; (try clear hb); (try clear hb2); (try clear hk); (try clear hi)))
   go_meet
   case rel => exact ⟨_, (true), sd_, H', ⟨by first | omega | exact Nat.le_refl _⟩, ⟨kk_ BK682⟩, ⟨bs1_ HB GE682⟩⟩
  subst c9
  have H1 : ((cohousingref01_Valid.f k a1_0 a1_1).bind fun t685 => (if t685 = true then (if a1_0 > 1000 then (cohousinglaw05_PiecewiseScales.j0 k l0 a2 t683 true a1_0 a1_1) else (if a1_0 < (-1000) then (cohousinglaw05_PiecewiseScales.j0 k l0 a2 t683 true a1_0 a1_1) else (cohousinglaw05_PiecewiseScales.j0 k l0 a2 t683 (decide (a1_1 > 1000)) a1_0 a1_1))) else (cohousinglaw05_PiecewiseScales.j0 k l0 a2 t683 true a1_0 a1_1))) = some r := by rw [if_pos rfl] at H; exact H
  clear H
  have H := H1
  clear H1
  replace H := Option.bind_eq_some_iff.mp H
  obtain ⟨t685, A100, H⟩ := H
  replace H : (if t685 = true then (if a1_0 > 1000 then (cohousinglaw05_PiecewiseScales.j0 k l0 a2 t683 true a1_0 a1_1) else (if a1_0 < (-1000) then (cohousinglaw05_PiecewiseScales.j0 k l0 a2 t683 true a1_0 a1_1) else (cohousinglaw05_PiecewiseScales.j0 k l0 a2 t683 (decide (a1_1 > 1000)) a1_0 a1_1))) else (cohousinglaw05_PiecewiseScales.j0 k l0 a2 t683 true a1_0 a1_1)) = some r := H
  have A10 := mk_ A100
  clear A100
  by_cases c11 : t685 = true
  rotate_left
  ·replace c11 := Bool.eq_false_iff.mpr c11
   subst c11
   have H1 : (cohousinglaw05_PiecewiseScales.j0 k l0 a2 t683 true a1_0 a1_1) = some r := by rw [if_neg (show ¬ (false = true) by decide)] at H; exact H
   clear H
   have H := H1
   clear H1
   have H' := mk_ H
   clear H
   go_wp2_with (first | ((with_reducible refine gate_callee (f := 25) rfl ?_); refine gl_ (some 15) Try.func25 #[.slice A0 l0.length c0, .slice A0 l0.length c0] ?_; (with_reducible refine (cohousinglaw05_both.calls k _ _ l0 _ _ l0 true _ ?side1 ?side2 ?side3 ?side4 A8.out).mono ?_); (case side1 => exact cc_ ((Kd.C_below HR0.out HB.out))); (case side2 => exact HC0.out); (case side3 => exact cc_ ((Kd.C_below HR0.out HB.out))); (case side4 => exact HC0.out); rintro e w26 ⟨rfl, hb⟩; refine ⟨_, rfl, ?_⟩; have n0_ := mk_ (blk_below (kk_ BK682) hb); have n1_ := mk_ (below_step (bs_ HB GE682.out) hb); clear BK682 HB; revert n0_ n1_; intro BK682 HB; (try clear hb); (try clear hb2); (try clear hk); (try clear hi); have hcz27_0 := bc0_ BK682.out; have hcz27_1 := bc1_ BK682.out; have hfz27_0 := blk_frozen BK682.out 0; have hfz27_1 := blk_frozen BK682.out 1) | (go_at_call 30; (with_reducible refine (cohousingref01_Valid.calls k a1_0 a1_1 false _ A10.out).mono ?_); rintro e w28 ⟨rfl, hb⟩; have n0_ := mk_ (blk_below (kk_ BK682) hb); have n1_ := mk_ (below_step (bs_ HB GE682.out) hb); clear BK682 HB; revert n0_ n1_; intro BK682 HB; (try clear hb); (try clear hb2); (try clear hk); (try clear hi)))
   go_meet
   case rel => exact ⟨_, (true), sd_, H', ⟨by first | omega | exact Nat.le_refl _⟩, ⟨kk_ BK682⟩, ⟨bs1_ HB GE682⟩⟩
  subst c11
  have H1 : (if a1_0 > 1000 then (cohousinglaw05_PiecewiseScales.j0 k l0 a2 t683 true a1_0 a1_1) else (if a1_0 < (-1000) then (cohousinglaw05_PiecewiseScales.j0 k l0 a2 t683 true a1_0 a1_1) else (cohousinglaw05_PiecewiseScales.j0 k l0 a2 t683 (decide (a1_1 > 1000)) a1_0 a1_1))) = some r := by rw [if_pos rfl] at H; exact H
  clear H
  have H := H1
  clear H1
  by_cases c12 : a1_0 > 1000
  ·rw [if_pos c12] at H
   have c12b0 : decide (1000 < a1_0) = true := decide_eq_true c12
   clear c12
   (first | rw [c12b0] | (simp only [i64_w, i32_w]; rw [c12b0]) | skip)
   have H' := mk_ H
   clear H
   go_wp2_with (first | ((with_reducible refine gate_callee (f := 25) rfl ?_); refine gl_ (some 15) Try.func25 #[.slice A0 l0.length c0, .slice A0 l0.length c0] ?_; (with_reducible refine (cohousinglaw05_both.calls k _ _ l0 _ _ l0 true _ ?side1 ?side2 ?side3 ?side4 A8.out).mono ?_); (case side1 => exact cc_ ((Kd.C_below HR0.out HB.out))); (case side2 => exact HC0.out); (case side3 => exact cc_ ((Kd.C_below HR0.out HB.out))); (case side4 => exact HC0.out); rintro e w13 ⟨rfl, hb⟩; refine ⟨_, rfl, ?_⟩; have n0_ := mk_ (blk_below (kk_ BK682) hb); have n1_ := mk_ (below_step (bs_ HB GE682.out) hb); clear BK682 HB; revert n0_ n1_; intro BK682 HB; (try clear hb); (try clear hb2); (try clear hk); (try clear hi); have hcz14_0 := bc0_ BK682.out; have hcz14_1 := bc1_ BK682.out; have hfz14_0 := blk_frozen BK682.out 0; have hfz14_1 := blk_frozen BK682.out 1) | (go_at_call 30; (with_reducible refine (cohousingref01_Valid.calls k a1_0 a1_1 true _ A10.out).mono ?_); rintro e w15 ⟨rfl, hb⟩; have n0_ := mk_ (blk_below (kk_ BK682) hb); have n1_ := mk_ (below_step (bs_ HB GE682.out) hb); clear BK682 HB; revert n0_ n1_; intro BK682 HB; (try clear hb); (try clear hb2); (try clear hk); (try clear hi); have hcz16_0 := bc0_ BK682.out; have hcz16_1 := bc1_ BK682.out; have hfz16_0 := blk_frozen BK682.out 0; have hfz16_1 := blk_frozen BK682.out 1))
   go_meet
   case rel => exact ⟨_, (true), sd_, H', ⟨by first | omega | exact Nat.le_refl _⟩, ⟨kk_ BK682⟩, ⟨bs1_ HB GE682⟩⟩
  rw [if_neg c12] at H
  have c12b0 : decide (1000 < a1_0) = false := decide_eq_false c12
  clear c12
  (first | rw [c12b0] | (simp only [i64_w, i32_w]; rw [c12b0]) | skip)
  by_cases c17 : a1_0 < (-1000)
  rotate_left
  ·rw [if_neg c17] at H
   have c17b0 : decide (a1_0 < (-1000)) = false := decide_eq_false c17
   clear c17
   have H' := mk_ H
   clear H
   go_wp2_with (first | ((with_reducible refine gate_callee (f := 25) rfl ?_); refine gl_ (some 15) Try.func25 #[.slice A0 l0.length c0, .slice A0 l0.length c0] ?_; (with_reducible refine (cohousinglaw05_both.calls k _ _ l0 _ _ l0 true _ ?side1 ?side2 ?side3 ?side4 A8.out).mono ?_); (case side1 => exact cc_ ((Kd.C_below HR0.out HB.out))); (case side2 => exact HC0.out); (case side3 => exact cc_ ((Kd.C_below HR0.out HB.out))); (case side4 => exact HC0.out); rintro e w22 ⟨rfl, hb⟩; refine ⟨_, rfl, ?_⟩; have n0_ := mk_ (blk_below (kk_ BK682) hb); have n1_ := mk_ (below_step (bs_ HB GE682.out) hb); clear BK682 HB; revert n0_ n1_; intro BK682 HB; (try clear hb); (try clear hb2); (try clear hk); (try clear hi); have hcz23_0 := bc0_ BK682.out; have hcz23_1 := bc1_ BK682.out; have hfz23_0 := blk_frozen BK682.out 0; have hfz23_1 := blk_frozen BK682.out 1) | (go_at_call 30; (with_reducible refine (cohousingref01_Valid.calls k a1_0 a1_1 true _ A10.out).mono ?_); rintro e w24 ⟨rfl, hb⟩; have n0_ := mk_ (blk_below (kk_ BK682) hb); have n1_ := mk_ (below_step (bs_ HB GE682.out) hb); clear BK682 HB; revert n0_ n1_; intro BK682 HB; (try clear hb); (try clear hb2); (try clear hk); (try clear hi); have hcz25_0 := bc0_ BK682.out; have hcz25_1 := bc1_ BK682.out; have hfz25_0 := blk_frozen BK682.out 0; have hfz25_1 := blk_frozen BK682.out 1))
   go_meet
   case rel => exact ⟨_, (decide (a1_1 > 1000)), sd_, H', ⟨by first | omega | exact Nat.le_refl _⟩, ⟨kk_ BK682⟩, ⟨bs1_ HB GE682⟩⟩
  rw [if_pos c17] at H
  have c17b0 : decide (a1_0 < (-1000)) = true := decide_eq_true c17
  clear c17
  have H' := mk_ H
  clear H
  go_wp2_with (first | ((with_reducible refine gate_callee (f := 25) rfl ?_); refine gl_ (some 15) Try.func25 #[.slice A0 l0.length c0, .slice A0 l0.length c0] ?_; (with_reducible refine (cohousinglaw05_both.calls k _ _ l0 _ _ l0 true _ ?side1 ?side2 ?side3 ?side4 A8.out).mono ?_); (case side1 => exact cc_ ((Kd.C_below HR0.out HB.out))); (case side2 => exact HC0.out); (case side3 => exact cc_ ((Kd.C_below HR0.out HB.out))); (case side4 => exact HC0.out); rintro e w18 ⟨rfl, hb⟩; refine ⟨_, rfl, ?_⟩; have n0_ := mk_ (blk_below (kk_ BK682) hb); have n1_ := mk_ (below_step (bs_ HB GE682.out) hb); clear BK682 HB; revert n0_ n1_; intro BK682 HB; (try clear hb); (try clear hb2); (try clear hk); (try clear hi); have hcz19_0 := bc0_ BK682.out; have hcz19_1 := bc1_ BK682.out; have hfz19_0 := blk_frozen BK682.out 0; have hfz19_1 := blk_frozen BK682.out 1) | (go_at_call 30; (with_reducible refine (cohousingref01_Valid.calls k a1_0 a1_1 true _ A10.out).mono ?_); rintro e w20 ⟨rfl, hb⟩; have n0_ := mk_ (blk_below (kk_ BK682) hb); have n1_ := mk_ (below_step (bs_ HB GE682.out) hb); clear BK682 HB; revert n0_ n1_; intro BK682 HB; (try clear hb); (try clear hb2); (try clear hk); (try clear hi); have hcz21_0 := bc0_ BK682.out; have hcz21_1 := bc1_ BK682.out; have hfz21_0 := blk_frozen BK682.out 0; have hfz21_1 := blk_frozen BK682.out 1))
  go_meet
  case rel => exact ⟨_, (true), sd_, H', ⟨by first | omega | exact Nat.le_refl _⟩, ⟨kk_ BK682⟩, ⟨bs1_ HB GE682⟩⟩
 case rest =>
  clear HC5
  try clear c1; try clear c2; try clear p2; try clear c9; try clear c10; try clear c11; try clear c12; try clear c12b0; try clear c17; try clear c17b0; try clear c25; try clear hcz14_0; try clear hcz14_1; try clear hcz16_0; try clear hcz16_1; try clear hcz19_0; try clear hcz19_1; try clear hcz21_0; try clear hcz21_1; try clear hcz23_0; try clear hcz23_1; try clear hcz25_0; try clear hcz25_1; try clear hcz27_0; try clear hcz27_1; try clear hfz14_0; try clear hfz14_1; try clear hfz16_0; try clear hfz16_1; try clear hfz19_0; try clear hfz19_1; try clear hfz21_0; try clear hfz21_1; try clear hfz23_0; try clear hfz23_1; try clear hfz25_0; try clear hfz25_1; try clear hfz27_0; try clear hfz27_1
  obtain ⟨kq, x36_4, rfl, HA, HJ4, BK682, HB⟩ := hcut
  cases kq with
  | zero => exact absurd HA.out (by simp [cohousinglaw05_PiecewiseScales.j0])
  | succ kj4 =>
   have H := HA.out
   clear HA
   simp only [cohousinglaw05_PiecewiseScales.j0] at H
   by_cases c30 : x36_4 = true
   ·subst c30
    have H1 : (some t683) = some r := by rw [if_pos rfl] at H; exact H
    clear H
    have H := H1
    clear H1
    obtain rfl := Option.some.inj H
    go_wp2
    go_ret
    exact ⟨ew_, bs1_ HB GE682⟩
   replace c30 := Bool.eq_false_iff.mpr c30
   subst c30
   have H1 : ((cohousinglaw05_place.f a2).bind fun t686 => ((piecewise_Scale.f kj4 l0 a1_0 a1_1).bind fun bt687 => (if bt687.2 = 0 then ((cohousingref05_Value.f kj4 l0 t686).bind fun bt691 => (if t683 = true then ((cohousingref05_Valid.f kj4 bt687.1).bind fun t694 => (if t694 = true then ((cohousingref05_Value.f kj4 bt687.1 t686).bind fun bt695 => ((cohousingref05_Reduce.f kj4 (wrap64 (bt691.1 * a1_0)) (wrap64 (bt691.2 * a1_1))).bind fun bt697 => (some (bt695.1 == bt697.1 && (bt695.2 == bt697.2))))) else (some false))) else (some false))) else (if t683 = true then (if bt687.2 = 3 then (some ((bt687.1.length : Int) == 0)) else (some false)) else (some false))))) = some r := by rw [if_neg (show ¬ (false = true) by decide)] at H; exact H
   clear H
   have H := H1
   clear H1
   replace H := Option.bind_eq_some_iff.mp H
   obtain ⟨t686, A310, H⟩ := H
   replace H : ((piecewise_Scale.f kj4 l0 a1_0 a1_1).bind fun bt687 => (if bt687.2 = 0 then ((cohousingref05_Value.f kj4 l0 t686).bind fun bt691 => (if t683 = true then ((cohousingref05_Valid.f kj4 bt687.1).bind fun t694 => (if t694 = true then ((cohousingref05_Value.f kj4 bt687.1 t686).bind fun bt695 => ((cohousingref05_Reduce.f kj4 (wrap64 (bt691.1 * a1_0)) (wrap64 (bt691.2 * a1_1))).bind fun bt697 => (some (bt695.1 == bt697.1 && (bt695.2 == bt697.2))))) else (some false))) else (some false))) else (if t683 = true then (if bt687.2 = 3 then (some ((bt687.1.length : Int) == 0)) else (some false)) else (some false)))) = some r := H
   have A31 := mk_ A310
   clear A310
   replace H := Option.bind_eq_some_iff.mp H
   obtain ⟨⟨t687, t690⟩, A320, H⟩ := H
   replace H : (if t690 = 0 then ((cohousingref05_Value.f kj4 l0 t686).bind fun bt691 => (if t683 = true then ((cohousingref05_Valid.f kj4 t687).bind fun t694 => (if t694 = true then ((cohousingref05_Value.f kj4 t687 t686).bind fun bt695 => ((cohousingref05_Reduce.f kj4 (wrap64 (bt691.1 * a1_0)) (wrap64 (bt691.2 * a1_1))).bind fun bt697 => (some (bt695.1 == bt697.1 && (bt695.2 == bt697.2))))) else (some false))) else (some false))) else (if t683 = true then (if t690 = 3 then (some ((t687.length : Int) == 0)) else (some false)) else (some false))) = some r := H
   have A32 := mk_ A320
   clear A320
   by_cases c33 : t690 = 0
   rotate_left
   ·rw [if_neg c33] at H
    have c33b0 : (t690 == 0) = false := beq_eq_false_iff_ne.mpr c33
    have c33b1 : (t690 != 0) = true := bne_iff_ne.mpr c33
    by_cases c70 : t683 = true
    rotate_left
    ·replace c70 := Bool.eq_false_iff.mpr c70
     subst c70
     have H1 : (some false) = some r := by rw [if_neg (show ¬ (false = true) by decide)] at H; exact H
     clear H
     have H := H1
     clear H1
     obtain rfl := Option.some.inj H
     go_wp2_with (first | ((with_reducible refine gate_callee (f := 26) rfl ?_); refine gl_ (some 39) Try.func26 #[.int .u32 a2] ?_; (with_reducible refine (cohousinglaw05_place.calls a2 t686 _ A31.out).mono ?_); rintro e w' ⟨rfl, ⟨nd, rfl⟩⟩; refine ⟨_, rfl, ?_⟩; have hcz77_0 := bc0_ BK682.out; have hcz77_1 := bc1_ BK682.out; have hfz77_0 := blk_frozen BK682.out 0; have hfz77_1 := blk_frozen BK682.out 1) | ((with_reducible refine gate_callee (f := 19) rfl ?_); refine gl_ (some 43) Try.func19 #[.slice A0 l0.length c0, .agg #[.int .i64 a1_0, .int .i64 a1_1]] ?_; (with_reducible refine (piecewise_Scale.calls kj4 _ _ l0 a1_0 a1_1 t687 t690 _ ?side1 ?side2 A32.out).mono ?_); (case side1 => exact cc_ ((Kd.C_below HR0.out (bs_ HB GE682.out)))); (case side2 => exact HC0.out); rintro e w78 ⟨v688, rfl, ho0, hb⟩; refine ⟨_, rfl, ?_⟩; have n0_ := mk_ (Kd.R_lower ho0 (below_size (bs_ HB GE682.out))); have n1_ := mk_ (blk_below (kk_ BK682) hb); have n2_ := mk_ (below_step (bs_ HB GE682.out) hb); clear BK682 HB; revert n0_ n1_ n2_; intro HO689 BK682 HB; (try clear hb); (try clear hb2); (try clear hk); (try clear hi); (try clear ho0)))
     go_ret
     exact ⟨ew_, bs1_ HB GE682⟩
    subst c70
    have H1 : (if t690 = 3 then (some ((t687.length : Int) == 0)) else (some false)) = some r := by rw [if_pos rfl] at H; exact H
    clear H
    have H := H1
    clear H1
    by_cases c71 : t690 = 3
    rotate_left
    ·rw [if_neg c71] at H
     have c71b0 : (t690 == 3) = false := beq_eq_false_iff_ne.mpr c71
     have c71b1 : (t690 != 3) = true := bne_iff_ne.mpr c71
     obtain rfl := Option.some.inj H
     go_wp2_with (first | ((with_reducible refine gate_callee (f := 26) rfl ?_); refine gl_ (some 39) Try.func26 #[.int .u32 a2] ?_; (with_reducible refine (cohousinglaw05_place.calls a2 t686 _ A31.out).mono ?_); rintro e w' ⟨rfl, ⟨nd, rfl⟩⟩; refine ⟨_, rfl, ?_⟩; have hcz75_0 := bc0_ BK682.out; have hcz75_1 := bc1_ BK682.out; have hfz75_0 := blk_frozen BK682.out 0; have hfz75_1 := blk_frozen BK682.out 1) | ((with_reducible refine gate_callee (f := 19) rfl ?_); refine gl_ (some 43) Try.func19 #[.slice A0 l0.length c0, .agg #[.int .i64 a1_0, .int .i64 a1_1]] ?_; (with_reducible refine (piecewise_Scale.calls kj4 _ _ l0 a1_0 a1_1 t687 t690 _ ?side1 ?side2 A32.out).mono ?_); (case side1 => exact cc_ ((Kd.C_below HR0.out (bs_ HB GE682.out)))); (case side2 => exact HC0.out); rintro e w76 ⟨v688, rfl, ho0, hb⟩; refine ⟨_, rfl, ?_⟩; have n0_ := mk_ (Kd.R_lower ho0 (below_size (bs_ HB GE682.out))); have n1_ := mk_ (blk_below (kk_ BK682) hb); have n2_ := mk_ (below_step (bs_ HB GE682.out) hb); clear BK682 HB; revert n0_ n1_ n2_; intro HO689 BK682 HB; (try clear hb); (try clear hb2); (try clear hk); (try clear hi); (try clear ho0)))
     go_ret
     exact ⟨ew_, bs1_ HB GE682⟩
    rw [if_pos c71] at H
    have c71b0 : (t690 == 3) = true := beq_iff_eq.mpr c71
    have c71b1 : (t690 != 3) = false := bne_eq_false_iff_eq.mpr c71
    clear c71
    obtain rfl := Option.some.inj H
    go_wp2_with (first | ((with_reducible refine gate_callee (f := 26) rfl ?_); refine gl_ (some 39) Try.func26 #[.int .u32 a2] ?_; (with_reducible refine (cohousinglaw05_place.calls a2 t686 _ A31.out).mono ?_); rintro e w' ⟨rfl, ⟨nd, rfl⟩⟩; refine ⟨_, rfl, ?_⟩; have hcz72_0 := bc0_ BK682.out; have hcz72_1 := bc1_ BK682.out; have hfz72_0 := blk_frozen BK682.out 0; have hfz72_1 := blk_frozen BK682.out 1) | ((with_reducible refine gate_callee (f := 19) rfl ?_); refine gl_ (some 43) Try.func19 #[.slice A0 l0.length c0, .agg #[.int .i64 a1_0, .int .i64 a1_1]] ?_; (with_reducible refine (piecewise_Scale.calls kj4 _ _ l0 a1_0 a1_1 t687 t690 _ ?side1 ?side2 A32.out).mono ?_); (case side1 => exact cc_ ((Kd.C_below HR0.out (bs_ HB GE682.out)))); (case side2 => exact HC0.out); rintro e w73 ⟨v688, rfl, ho0, hb⟩; refine ⟨_, rfl, ?_⟩; have n0_ := mk_ (Kd.R_lower ho0 (below_size (bs_ HB GE682.out))); have n1_ := mk_ (blk_below (kk_ BK682) hb); have n2_ := mk_ (below_step (bs_ HB GE682.out) hb); clear BK682 HB; revert n0_ n1_ n2_; intro HO689 BK682 HB; (try clear hb); (try clear hb2); (try clear hk); (try clear hi); (try clear ho0); obtain ⟨Ao74, co74, eo74⟩ := Kd.R_slice HO689.out; subst eo74))
    go_ret
    exact ⟨ew_, bs1_ HB GE682⟩
   rw [if_pos c33] at H
   have c33b0 : (t690 == 0) = true := beq_iff_eq.mpr c33
   have c33b1 : (t690 != 0) = false := bne_eq_false_iff_eq.mpr c33
   clear c33
   replace H := Option.bind_eq_some_iff.mp H
   obtain ⟨⟨t691, t692⟩, A340, H⟩ := H
   replace H : (if t683 = true then ((cohousingref05_Valid.f kj4 t687).bind fun t694 => (if t694 = true then ((cohousingref05_Value.f kj4 t687 t686).bind fun bt695 => ((cohousingref05_Reduce.f kj4 (wrap64 (t691 * a1_0)) (wrap64 (t692 * a1_1))).bind fun bt697 => (some (bt695.1 == bt697.1 && (bt695.2 == bt697.2))))) else (some false))) else (some false)) = some r := H
   have A34 := mk_ A340
   clear A340
   by_cases c35 : t683 = true
   rotate_left
   ·replace c35 := Bool.eq_false_iff.mpr c35
    subst c35
    have H1 : (some false) = some r := by rw [if_neg (show ¬ (false = true) by decide)] at H; exact H
    clear H
    have H := H1
    clear H1
    obtain rfl := Option.some.inj H
    try go_wp2_with (first | ((with_reducible refine gate_callee (f := 26) rfl ?_); refine gl_ (some 39) Try.func26 #[.int .u32 a2] ?_; (with_reducible refine (cohousinglaw05_place.calls a2 t686 _ A31.out).mono ?_); rintro e w' ⟨rfl, ⟨nd, rfl⟩⟩; refine ⟨_, rfl, ?_⟩; (try (rw [drewN_self wc]; generalize hq_ : World.drewN wc _ = wc; have n0_ : Aside0 (wc.heap[gb682]? = some (.cells #[.int .i64 a1_0, .int .i64 a1_1] 24 (0, 0))) := ⟨by rw [← hq_]; exact (kk_ BK682)⟩; have n1_ : Aside0 (Below w.heap.size w wc) := ⟨by rw [← hq_]; exact (bs_ HB GE682.out)⟩; clear BK682 HB hq_; revert n0_ n1_; intro BK682 HB)); have hcz62_0 := bc0_ BK682.out; have hcz62_1 := bc1_ BK682.out; have hfz62_0 := blk_frozen BK682.out 0; have hfz62_1 := blk_frozen BK682.out 1) | ((with_reducible refine gate_callee (f := 19) rfl ?_); refine gl_ (some 43) Try.func19 #[.slice A0 l0.length c0, .agg #[.int .i64 a1_0, .int .i64 a1_1]] ?_; (with_reducible refine (piecewise_Scale.calls kj4 _ _ l0 a1_0 a1_1 t687 t690 _ ?side1 ?side2 A32.out).mono ?_); (case side1 => exact cc_ ((Kd.C_below HR0.out HB.out))); (case side2 => exact HC0.out); rintro e w63 ⟨v688, rfl, ho0, hb⟩; refine ⟨_, rfl, ?_⟩; have n0_ := mk_ (Kd.R_lower ho0 (below_size (bs_ HB GE682.out))); have n1_ := mk_ (blk_below (kk_ BK682) hb); have n2_ := mk_ (below_step (bs_ HB GE682.out) hb); clear BK682 HB; revert n0_ n1_ n2_; intro HO689 BK682 HB; (try clear hb); (try clear hb2); (try clear hk); (try clear hi); (try clear ho0)) | ((with_reducible refine gate_callee (f := 27) rfl ?_); refine gl_ (some 60) Try.func27 #[.slice A0 l0.length c0, .int .i64 t686] ?_; (with_reducible refine (cohousingref05_Value.calls kj4 _ _ l0 t686 t691 t692 _ ?side1 ?side2 A34.out).mono ?_); (case side1 => exact cc_ ((Kd.C_below HR0.out HB.out))); (case side2 => exact HC0.out); rintro e w64 ⟨rfl, hb⟩; refine ⟨_, rfl, ?_⟩; have n0_ := mk_ (Kd.R_below (rr_ HO689) hb); have n1_ := mk_ (blk_below (kk_ BK682) hb); have n2_ := mk_ (below_step (bs_ HB GE682.out) hb); clear HO689 BK682 HB; revert n0_ n1_ n2_; intro HO689 BK682 HB; (try clear hb); (try clear hb2); (try clear hk); (try clear hi)) | ((with_reducible refine gate_dst (N := 11) rfl ?_); (try (refine gate_guard (by rfl) ?_; dsimp only)); refine box_event ?hg (N := 11) ?hd (cs := #[.int .i64 0, .int .i64 0]) (t := 24) ?hr ?_; (case hd => rfl); (case hg => rfl); (case hr => first | (go_simp; done) | (go_simp; rfl)); intro gb693 hg w65 hbox hb; have n0_ := mk_ (Kd.R_below (rr_ HO689) hb); have n1_ := mk_ (blk_below (kk_ BK682) hb); have n2_ := mk_ (below_step (bs_ HB GE682.out) hb); have n3_ := mk_ (hbox); have n4_ := mk_ (bz_ hg (bs_ HB GE682.out)); have n5_ := mk_ (bz_ hg (bs_ HB GE682.out)); have n6_ := mk_ (bl_ hg (kk_ BK682)); have n7_ := mk_ (bg_ hg (kk_ BK682)); clear HO689 BK682 HB; revert n0_ n1_ n2_ n3_ n4_ n5_ n6_ n7_; intro HO689 BK682 HB BK693 GW693 GE693 NB682_693 NB693_682; clear hb hbox hg; have hnb66 := NB693_682.out; have hnc66 := NB682_693.out; have hcz67_0 := bc0_ BK693.out; have hcz67_1 := bc1_ BK693.out; have hfz67_0 := blk_frozen BK693.out 0; have hfz67_1 := blk_frozen BK693.out 1))
    have n0_ : Aside0 (Kd.R k51 51 ((w65.setCell ⟨gb693, 0, none⟩ (.int .i64 t691)).setCell ⟨gb693, 1, none⟩ (.int .i64 t692)) w.heap.size (fun _ => True) v688 t687) := ⟨by (with_reducible repeat (first | apply Kd.R_alloc | apply Kd.R_drewN | apply Kd.R_drew)); exact Kd.R_mono (Kd.R_far (p := ⟨gb693, 1, none⟩) (Kd.R_far (p := ⟨gb693, 0, none⟩) (Kd.R_types HO689.out BK693.out (by decide)) (fun _ hk => hk.2) (.int .i64 t691)) (fun _ hk => hk.2) (.int .i64 t692)) (fun _ hk => trivial)⟩
    have n1_ : Aside0 (((w65.setCell ⟨gb693, 0, none⟩ (.int .i64 t691)).setCell ⟨gb693, 1, none⟩ (.int .i64 t692)).heap[gb682]? = some (.cells #[.int .i64 a1_0, .int .i64 a1_1] 24 (0, 0))) := ⟨by (with_reducible repeat (first | refine blk_drewN ?_ _ | refine blk_drew ?_ | refine blk_alloc ?_ _)); refine blk_far ?_ NB682_693.out _; (with_reducible repeat (first | refine blk_drewN ?_ _ | refine blk_drew ?_ | refine blk_alloc ?_ _)); refine blk_far ?_ NB682_693.out _; (with_reducible repeat (first | refine blk_drewN ?_ _ | refine blk_drew ?_ | refine blk_alloc ?_ _)); exact BK682.out⟩
    have n2_ : Aside0 (((w65.setCell ⟨gb693, 0, none⟩ (.int .i64 t691)).setCell ⟨gb693, 1, none⟩ (.int .i64 t692)).heap[gb693]? = some (.cells #[.int .i64 t691, .int .i64 t692] 24 (0, 0))) := ⟨by (with_reducible repeat (first | refine blk_drewN ?_ _ | refine blk_drew ?_ | refine blk_alloc ?_ _)); refine blk_put (cs := #[.int .i64 t691, .int .i64 0]) ?_ 1 _ rfl; (with_reducible repeat (first | refine blk_drewN ?_ _ | refine blk_drew ?_ | refine blk_alloc ?_ _)); refine blk_put (cs := #[.int .i64 0, .int .i64 0]) ?_ 0 _ rfl; (with_reducible repeat (first | refine blk_drewN ?_ _ | refine blk_drew ?_ | refine blk_alloc ?_ _)); exact BK693.out⟩
    have n3_ : Aside0 (Below w.heap.size w ((w65.setCell ⟨gb693, 0, none⟩ (.int .i64 t691)).setCell ⟨gb693, 1, none⟩ (.int .i64 t692))) := ⟨bs2_ HB GE682 GE693⟩
    (try clear HO689)
    (try clear BK682)
    (try clear BK693)
    (try clear HB)
    generalize ((w65.setCell ⟨gb693, 0, none⟩ (.int .i64 t691)).setCell ⟨gb693, 1, none⟩ (.int .i64 t692)) = w68 at n0_ n1_ n2_ n3_ ⊢
    have HO689 := n0_
    have BK682 := n1_
    have BK693 := n2_
    have HB := n3_
    clear n0_ n1_ n2_ n3_
    have n0_ := mk_ (Kd.R_drew HO689.out)
    have n1_ := mk_ (blk_drew BK682.out)
    have n2_ := mk_ (blk_drew BK693.out)
    have n3_ := mk_ (below_drew1 HB.out)
    clear HO689
    clear BK682
    clear BK693
    clear HB
    have HO689 := n0_
    have BK682 := n1_
    have BK693 := n2_
    have HB := n3_
    clear n0_ n1_ n2_ n3_
    refine start_ (n := 23) (S := fun w' => True) (ds := []) #[n_, n_, n_, n_, n_, n_, n_, n_, n_, n_, n_, n_, n_, n_, n_, n_, n_, n_, n_, n_, n_, n_, n_] (by kernel_rfl) rfl rfl trivial (fun hHeld => ?_); refine with_tabW cohousinglaw05_PiecewiseScales.tab9 cohousinglaw05_PiecewiseScales.bits9 (fun HT_ HW_ => ?_)
    generalize w68.drew = w69 at HO689 BK682 BK693 HB hHeld ⊢
    refine pu_ 0 61 (w_ 23 1) rfl HT_ ?_
    refine pu_ 1 62 (w_ 23 3) rfl HT_ ?_
    refine pn_ 2 63 (w_ 23 7) rfl HT_ ?_
    refine pn_ 3 64 (w_ 23 15) rfl HT_ ?_
    refine pu_ 4 65 (w_ 23 31) rfl HT_ ?_
    refine pu_ 5 66 (w_ 23 63) rfl HT_ ?_
    refine pn_ 6 67 (w_ 23 127) rfl HT_ ?_
    refine pn_ 7 68 (w_ 23 255) rfl HT_ ?_
    refine pn_ 8 69 (w_ 23 511) rfl HT_ ?_
    refine pn_ 9 70 (w_ 23 1023) rfl HT_ ?_
    refine pn_ 10 71 (w_ 23 2047) rfl HT_ ?_
    refine pn_ 11 72 (w_ 23 4095) rfl HT_ ?_
    refine pn_ 12 73 (w_ 23 8191) rfl HT_ ?_
    refine pn_ 13 74 (w_ 23 16383) rfl HT_ ?_
    refine pn_ 14 75 (w_ 23 32767) rfl HT_ ?_
    refine pn_ 15 76 (w_ 23 65535) rfl HT_ ?_
    refine pn_ 16 77 (w_ 23 131071) rfl HT_ ?_
    refine pn_ 17 78 (w_ 23 262143) rfl HT_ ?_
    refine pn_ 18 79 (w_ 23 524287) rfl HT_ ?_
    refine pn_ 19 80 (w_ 23 1048575) rfl HT_ ?_
    refine pn_ 20 81 (w_ 23 2097151) rfl HT_ ?_
    refine pu_ 21 82 (w_ 23 4194303) rfl HT_ ?_
    refine pu_ 22 6 (w_ 23 8388607) rfl HT_ ?_
    refine done_ (done_of HT_.out (by kernel_rfl)) ?_
    try go_wp2
    go_ret
    exact ⟨ew_, bs2_ HB GE682 GE693⟩
   subst c35
   have H1 : ((cohousingref05_Valid.f kj4 t687).bind fun t694 => (if t694 = true then ((cohousingref05_Value.f kj4 t687 t686).bind fun bt695 => ((cohousingref05_Reduce.f kj4 (wrap64 (t691 * a1_0)) (wrap64 (t692 * a1_1))).bind fun bt697 => (some (bt695.1 == bt697.1 && (bt695.2 == bt697.2))))) else (some false))) = some r := by rw [if_pos rfl] at H; exact H
   clear H
   have H := H1
   clear H1
   replace H := Option.bind_eq_some_iff.mp H
   obtain ⟨t694, A360, H⟩ := H
   replace H : (if t694 = true then ((cohousingref05_Value.f kj4 t687 t686).bind fun bt695 => ((cohousingref05_Reduce.f kj4 (wrap64 (t691 * a1_0)) (wrap64 (t692 * a1_1))).bind fun bt697 => (some (bt695.1 == bt697.1 && (bt695.2 == bt697.2))))) else (some false)) = some r := H
   have A36 := mk_ A360
   clear A360
   by_cases c37 : t694 = true
   rotate_left
   ·replace c37 := Bool.eq_false_iff.mpr c37
    subst c37
    have H1 : (some false) = some r := by rw [if_neg (show ¬ (false = true) by decide)] at H; exact H
    clear H
    have H := H1
    clear H1
    obtain rfl := Option.some.inj H
    try go_wp2_with (first | ((with_reducible refine gate_callee (f := 26) rfl ?_); refine gl_ (some 39) Try.func26 #[.int .u32 a2] ?_; (with_reducible refine (cohousinglaw05_place.calls a2 t686 _ A31.out).mono ?_); rintro e w' ⟨rfl, ⟨nd, rfl⟩⟩; refine ⟨_, rfl, ?_⟩; (try (rw [drewN_self wc]; generalize hq_ : World.drewN wc _ = wc; have n0_ : Aside0 (wc.heap[gb682]? = some (.cells #[.int .i64 a1_0, .int .i64 a1_1] 24 (0, 0))) := ⟨by rw [← hq_]; exact (kk_ BK682)⟩; have n1_ : Aside0 (Below w.heap.size w wc) := ⟨by rw [← hq_]; exact (bs_ HB GE682.out)⟩; clear BK682 HB hq_; revert n0_ n1_; intro BK682 HB)); have hcz52_0 := bc0_ BK682.out; have hcz52_1 := bc1_ BK682.out; have hfz52_0 := blk_frozen BK682.out 0; have hfz52_1 := blk_frozen BK682.out 1) | ((with_reducible refine gate_callee (f := 19) rfl ?_); refine gl_ (some 43) Try.func19 #[.slice A0 l0.length c0, .agg #[.int .i64 a1_0, .int .i64 a1_1]] ?_; (with_reducible refine (piecewise_Scale.calls kj4 _ _ l0 a1_0 a1_1 t687 t690 _ ?side1 ?side2 A32.out).mono ?_); (case side1 => exact cc_ ((Kd.C_below HR0.out HB.out))); (case side2 => exact HC0.out); rintro e w53 ⟨v688, rfl, ho0, hb⟩; refine ⟨_, rfl, ?_⟩; have n0_ := mk_ (Kd.R_lower ho0 (below_size (bs_ HB GE682.out))); have n1_ := mk_ (blk_below (kk_ BK682) hb); have n2_ := mk_ (below_step (bs_ HB GE682.out) hb); clear BK682 HB; revert n0_ n1_ n2_; intro HO689 BK682 HB; (try clear hb); (try clear hb2); (try clear hk); (try clear hi); (try clear ho0)) | ((with_reducible refine gate_callee (f := 27) rfl ?_); refine gl_ (some 60) Try.func27 #[.slice A0 l0.length c0, .int .i64 t686] ?_; (with_reducible refine (cohousingref05_Value.calls kj4 _ _ l0 t686 t691 t692 _ ?side1 ?side2 A34.out).mono ?_); (case side1 => exact cc_ ((Kd.C_below HR0.out HB.out))); (case side2 => exact HC0.out); rintro e w54 ⟨rfl, hb⟩; refine ⟨_, rfl, ?_⟩; have n0_ := mk_ (Kd.R_below (rr_ HO689) hb); have n1_ := mk_ (blk_below (kk_ BK682) hb); have n2_ := mk_ (below_step (bs_ HB GE682.out) hb); clear HO689 BK682 HB; revert n0_ n1_ n2_; intro HO689 BK682 HB; (try clear hb); (try clear hb2); (try clear hk); (try clear hi)) | ((with_reducible refine gate_dst (N := 11) rfl ?_); (try (refine gate_guard (by rfl) ?_; dsimp only)); refine box_event ?hg (N := 11) ?hd (cs := #[.int .i64 0, .int .i64 0]) (t := 24) ?hr ?_; (case hd => rfl); (case hg => rfl); (case hr => first | (go_simp; done) | (go_simp; rfl)); intro gb693 hg w55 hbox hb; have n0_ := mk_ (Kd.R_below (rr_ HO689) hb); have n1_ := mk_ (blk_below (kk_ BK682) hb); have n2_ := mk_ (below_step (bs_ HB GE682.out) hb); have n3_ := mk_ (hbox); have n4_ := mk_ (bz_ hg (bs_ HB GE682.out)); have n5_ := mk_ (bz_ hg (bs_ HB GE682.out)); have n6_ := mk_ (bl_ hg (kk_ BK682)); have n7_ := mk_ (bg_ hg (kk_ BK682)); clear HO689 BK682 HB; revert n0_ n1_ n2_ n3_ n4_ n5_ n6_ n7_; intro HO689 BK682 HB BK693 GW693 GE693 NB682_693 NB693_682; clear hb hbox hg; have hnb56 := NB693_682.out; have hnc56 := NB682_693.out; have hcz57_0 := bc0_ BK693.out; have hcz57_1 := bc1_ BK693.out; have hfz57_0 := blk_frozen BK693.out 0; have hfz57_1 := blk_frozen BK693.out 1))
    have n0_ : Aside0 (Kd.R k51 51 ((w55.setCell ⟨gb693, 0, none⟩ (.int .i64 t691)).setCell ⟨gb693, 1, none⟩ (.int .i64 t692)) w.heap.size (fun _ => True) v688 t687) := ⟨by (with_reducible repeat (first | apply Kd.R_alloc | apply Kd.R_drewN | apply Kd.R_drew)); exact Kd.R_mono (Kd.R_far (p := ⟨gb693, 1, none⟩) (Kd.R_far (p := ⟨gb693, 0, none⟩) (Kd.R_types HO689.out BK693.out (by decide)) (fun _ hk => hk.2) (.int .i64 t691)) (fun _ hk => hk.2) (.int .i64 t692)) (fun _ hk => trivial)⟩
    have n1_ : Aside0 (((w55.setCell ⟨gb693, 0, none⟩ (.int .i64 t691)).setCell ⟨gb693, 1, none⟩ (.int .i64 t692)).heap[gb682]? = some (.cells #[.int .i64 a1_0, .int .i64 a1_1] 24 (0, 0))) := ⟨by (with_reducible repeat (first | refine blk_drewN ?_ _ | refine blk_drew ?_ | refine blk_alloc ?_ _)); refine blk_far ?_ NB682_693.out _; (with_reducible repeat (first | refine blk_drewN ?_ _ | refine blk_drew ?_ | refine blk_alloc ?_ _)); refine blk_far ?_ NB682_693.out _; (with_reducible repeat (first | refine blk_drewN ?_ _ | refine blk_drew ?_ | refine blk_alloc ?_ _)); exact BK682.out⟩
    have n2_ : Aside0 (((w55.setCell ⟨gb693, 0, none⟩ (.int .i64 t691)).setCell ⟨gb693, 1, none⟩ (.int .i64 t692)).heap[gb693]? = some (.cells #[.int .i64 t691, .int .i64 t692] 24 (0, 0))) := ⟨by (with_reducible repeat (first | refine blk_drewN ?_ _ | refine blk_drew ?_ | refine blk_alloc ?_ _)); refine blk_put (cs := #[.int .i64 t691, .int .i64 0]) ?_ 1 _ rfl; (with_reducible repeat (first | refine blk_drewN ?_ _ | refine blk_drew ?_ | refine blk_alloc ?_ _)); refine blk_put (cs := #[.int .i64 0, .int .i64 0]) ?_ 0 _ rfl; (with_reducible repeat (first | refine blk_drewN ?_ _ | refine blk_drew ?_ | refine blk_alloc ?_ _)); exact BK693.out⟩
    have n3_ : Aside0 (Below w.heap.size w ((w55.setCell ⟨gb693, 0, none⟩ (.int .i64 t691)).setCell ⟨gb693, 1, none⟩ (.int .i64 t692))) := ⟨bs2_ HB GE682 GE693⟩
    (try clear HO689)
    (try clear BK682)
    (try clear BK693)
    (try clear HB)
    generalize ((w55.setCell ⟨gb693, 0, none⟩ (.int .i64 t691)).setCell ⟨gb693, 1, none⟩ (.int .i64 t692)) = w58 at n0_ n1_ n2_ n3_ ⊢
    have HO689 := n0_
    have BK682 := n1_
    have BK693 := n2_
    have HB := n3_
    clear n0_ n1_ n2_ n3_
    have n0_ := mk_ (Kd.R_drew HO689.out)
    have n1_ := mk_ (blk_drew BK682.out)
    have n2_ := mk_ (blk_drew BK693.out)
    have n3_ := mk_ (below_drew1 HB.out)
    clear HO689
    clear BK682
    clear BK693
    clear HB
    have HO689 := n0_
    have BK682 := n1_
    have BK693 := n2_
    have HB := n3_
    clear n0_ n1_ n2_ n3_
    obtain ⟨Ao60, co60, eo60⟩ := Kd.R_slice HO689.out
    (first | subst eo60 | (injection eo60 with f1_ f2_ f3_; have f4_ := f1_.symm; have f5_ := f3_.symm; clear f1_ f2_ f3_; subst f4_; subst f5_))
    refine start_ (n := 23) (S := fun w' => True) (ds := []) #[n_, n_, n_, n_, n_, n_, n_, n_, n_, n_, n_, n_, n_, n_, n_, n_, n_, n_, n_, n_, n_, n_, n_] (by kernel_rfl) rfl rfl trivial (fun hHeld => ?_); refine with_tabW cohousinglaw05_PiecewiseScales.tab9 cohousinglaw05_PiecewiseScales.bits9 (fun HT_ HW_ => ?_)
    generalize w58.drew = w59 at HO689 BK682 BK693 HB hHeld ⊢
    refine pu_ 0 61 (w_ 23 1) rfl HT_ ?_
    refine pu_ 1 62 (w_ 23 3) rfl HT_ ?_
    refine pu_ 2 63 (w_ 23 7) rfl HT_ ?_
    refine one_ (i := 3) (N := some 64) (w_ 23 15) rfl rfl (one_of HT_.out (by kernel_rfl)) (by decide) (fun K hK => ?_)
    refine goes_ Try.func15 (by kernel_rfl) rfl #[.slice Ao60 t687.length co60] (by rfl) rfl rfl (by (try simp only [List.map_toArray, List.map_cons, List.map_nil]); first | done | rfl | (simp only [List.length_drop, List.length_take]; rfl)) ?_
    with_reducible refine (cohousingref05_Valid.calls kj4 _ _ t687 false _ ?side1 ?side2 A36.out).mono ?_
    (case side1 => exact cc_ ((Kd.R_reads' HO689.out).2.2))
    (case side2 => exact (Kd.R_reads' HO689.out).2.1)
    rintro e w61 ⟨rfl, hb⟩
    refine ⟨_, rfl, ?_⟩
    have n0_ := mk_ (Kd.R_below (rr_ HO689) hb)
    have n1_ := mk_ (blk_below (kk_ BK682) hb)
    have n2_ := mk_ (blk_below (kk_ BK693) hb)
    have n3_ := mk_ (below_step (bs2_ HB GE682 GE693) hb)
    clear HO689
    clear BK682
    clear BK693
    clear HB
    have HO689 := n0_
    have BK682 := n1_
    have BK693 := n2_
    have HB := n3_
    clear n0_ n1_ n2_ n3_
    (try clear hb)
    (try clear hb2)
    (try clear hk)
    (try clear hi)
    refine hK.out _ _ trivial (fun hHeld => ?_)
    clear hK K
    refine norm_ (a' := ?_) ?_ ?_
    rotate_left
    ·show Act.put _ (some 64) _ = _
     simp only [Act.put, sI_, s0_, sS_, i64_w, i32_w]
     rfl
    refine pu_ 4 65 (w_ 23 31) rfl HT_ ?_
    refine pu_ 5 66 (w_ 23 63) rfl HT_ ?_
    refine pn_ 6 67 (w_ 23 127) rfl HT_ ?_
    refine pn_ 7 68 (w_ 23 255) rfl HT_ ?_
    refine pn_ 8 69 (w_ 23 511) rfl HT_ ?_
    refine pn_ 9 70 (w_ 23 1023) rfl HT_ ?_
    refine pn_ 10 71 (w_ 23 2047) rfl HT_ ?_
    refine pn_ 11 72 (w_ 23 4095) rfl HT_ ?_
    refine pn_ 12 73 (w_ 23 8191) rfl HT_ ?_
    refine pn_ 13 74 (w_ 23 16383) rfl HT_ ?_
    refine pn_ 14 75 (w_ 23 32767) rfl HT_ ?_
    refine pn_ 15 76 (w_ 23 65535) rfl HT_ ?_
    refine pn_ 16 77 (w_ 23 131071) rfl HT_ ?_
    refine pn_ 17 78 (w_ 23 262143) rfl HT_ ?_
    refine pn_ 18 79 (w_ 23 524287) rfl HT_ ?_
    refine pn_ 19 80 (w_ 23 1048575) rfl HT_ ?_
    refine pn_ 20 81 (w_ 23 2097151) rfl HT_ ?_
    refine pu_ 21 82 (w_ 23 4194303) rfl HT_ ?_
    refine pu_ 22 6 (w_ 23 8388607) rfl HT_ ?_
    refine done_ (done_of HT_.out (by kernel_rfl)) ?_
    try go_wp2
    go_ret
    exact ⟨ew_, bs2_ HB GE682 GE693⟩
   subst c37
   have H1 : ((cohousingref05_Value.f kj4 t687 t686).bind fun bt695 => ((cohousingref05_Reduce.f kj4 (wrap64 (t691 * a1_0)) (wrap64 (t692 * a1_1))).bind fun bt697 => (some (bt695.1 == bt697.1 && (bt695.2 == bt697.2))))) = some r := by rw [if_pos rfl] at H; exact H
   clear H
   have H := H1
   clear H1
   replace H := Option.bind_eq_some_iff.mp H
   obtain ⟨⟨t695, t696⟩, A380, H⟩ := H
   replace H : ((cohousingref05_Reduce.f kj4 (wrap64 (t691 * a1_0)) (wrap64 (t692 * a1_1))).bind fun bt697 => (some (t695 == bt697.1 && (t696 == bt697.2)))) = some r := H
   have A38 := mk_ A380
   clear A380
   replace H := Option.bind_eq_some_iff.mp H
   obtain ⟨⟨t697, t698⟩, A390, H⟩ := H
   replace H : (some (t695 == t697 && (t696 == t698))) = some r := H
   have A39 := mk_ A390
   clear A390
   obtain rfl := Option.some.inj H
   try go_wp2_with (first | ((with_reducible refine gate_callee (f := 26) rfl ?_); refine gl_ (some 39) Try.func26 #[.int .u32 a2] ?_; (with_reducible refine (cohousinglaw05_place.calls a2 t686 _ A31.out).mono ?_); rintro e w' ⟨rfl, ⟨nd, rfl⟩⟩; refine ⟨_, rfl, ?_⟩; (try (rw [drewN_self wc]; generalize hq_ : World.drewN wc _ = wc; have n0_ : Aside0 (wc.heap[gb682]? = some (.cells #[.int .i64 a1_0, .int .i64 a1_1] 24 (0, 0))) := ⟨by rw [← hq_]; exact (kk_ BK682)⟩; have n1_ : Aside0 (Below w.heap.size w wc) := ⟨by rw [← hq_]; exact (bs_ HB GE682.out)⟩; clear BK682 HB hq_; revert n0_ n1_; intro BK682 HB)); have hcz40_0 := bc0_ BK682.out; have hcz40_1 := bc1_ BK682.out; have hfz40_0 := blk_frozen BK682.out 0; have hfz40_1 := blk_frozen BK682.out 1) | ((with_reducible refine gate_callee (f := 19) rfl ?_); refine gl_ (some 43) Try.func19 #[.slice A0 l0.length c0, .agg #[.int .i64 a1_0, .int .i64 a1_1]] ?_; (with_reducible refine (piecewise_Scale.calls kj4 _ _ l0 a1_0 a1_1 t687 t690 _ ?side1 ?side2 A32.out).mono ?_); (case side1 => exact cc_ ((Kd.C_below HR0.out HB.out))); (case side2 => exact HC0.out); rintro e w41 ⟨v688, rfl, ho0, hb⟩; refine ⟨_, rfl, ?_⟩; have n0_ := mk_ (Kd.R_lower ho0 (below_size (bs_ HB GE682.out))); have n1_ := mk_ (blk_below (kk_ BK682) hb); have n2_ := mk_ (below_step (bs_ HB GE682.out) hb); clear BK682 HB; revert n0_ n1_ n2_; intro HO689 BK682 HB; (try clear hb); (try clear hb2); (try clear hk); (try clear hi); (try clear ho0)) | ((with_reducible refine gate_callee (f := 27) rfl ?_); refine gl_ (some 60) Try.func27 #[.slice A0 l0.length c0, .int .i64 t686] ?_; (with_reducible refine (cohousingref05_Value.calls kj4 _ _ l0 t686 t691 t692 _ ?side1 ?side2 A34.out).mono ?_); (case side1 => exact cc_ ((Kd.C_below HR0.out HB.out))); (case side2 => exact HC0.out); rintro e w42 ⟨rfl, hb⟩; refine ⟨_, rfl, ?_⟩; have n0_ := mk_ (Kd.R_below (rr_ HO689) hb); have n1_ := mk_ (blk_below (kk_ BK682) hb); have n2_ := mk_ (below_step (bs_ HB GE682.out) hb); clear HO689 BK682 HB; revert n0_ n1_ n2_; intro HO689 BK682 HB; (try clear hb); (try clear hb2); (try clear hk); (try clear hi)) | ((with_reducible refine gate_dst (N := 11) rfl ?_); (try (refine gate_guard (by rfl) ?_; dsimp only)); refine box_event ?hg (N := 11) ?hd (cs := #[.int .i64 0, .int .i64 0]) (t := 24) ?hr ?_; (case hd => rfl); (case hg => rfl); (case hr => first | (go_simp; done) | (go_simp; rfl)); intro gb693 hg w43 hbox hb; have n0_ := mk_ (Kd.R_below (rr_ HO689) hb); have n1_ := mk_ (blk_below (kk_ BK682) hb); have n2_ := mk_ (below_step (bs_ HB GE682.out) hb); have n3_ := mk_ (hbox); have n4_ := mk_ (bz_ hg (bs_ HB GE682.out)); have n5_ := mk_ (bz_ hg (bs_ HB GE682.out)); have n6_ := mk_ (bl_ hg (kk_ BK682)); have n7_ := mk_ (bg_ hg (kk_ BK682)); clear HO689 BK682 HB; revert n0_ n1_ n2_ n3_ n4_ n5_ n6_ n7_; intro HO689 BK682 HB BK693 GW693 GE693 NB682_693 NB693_682; clear hb hbox hg; have hnb44 := NB693_682.out; have hnc44 := NB682_693.out; have hcz45_0 := bc0_ BK693.out; have hcz45_1 := bc1_ BK693.out; have hfz45_0 := blk_frozen BK693.out 0; have hfz45_1 := blk_frozen BK693.out 1))
   have n0_ : Aside0 (Kd.R k51 51 ((w43.setCell ⟨gb693, 0, none⟩ (.int .i64 t691)).setCell ⟨gb693, 1, none⟩ (.int .i64 t692)) w.heap.size (fun _ => True) v688 t687) := ⟨by (with_reducible repeat (first | apply Kd.R_alloc | apply Kd.R_drewN | apply Kd.R_drew)); exact Kd.R_mono (Kd.R_far (p := ⟨gb693, 1, none⟩) (Kd.R_far (p := ⟨gb693, 0, none⟩) (Kd.R_types HO689.out BK693.out (by decide)) (fun _ hk => hk.2) (.int .i64 t691)) (fun _ hk => hk.2) (.int .i64 t692)) (fun _ hk => trivial)⟩
   have n1_ : Aside0 (((w43.setCell ⟨gb693, 0, none⟩ (.int .i64 t691)).setCell ⟨gb693, 1, none⟩ (.int .i64 t692)).heap[gb682]? = some (.cells #[.int .i64 a1_0, .int .i64 a1_1] 24 (0, 0))) := ⟨by (with_reducible repeat (first | refine blk_drewN ?_ _ | refine blk_drew ?_ | refine blk_alloc ?_ _)); refine blk_far ?_ NB682_693.out _; (with_reducible repeat (first | refine blk_drewN ?_ _ | refine blk_drew ?_ | refine blk_alloc ?_ _)); refine blk_far ?_ NB682_693.out _; (with_reducible repeat (first | refine blk_drewN ?_ _ | refine blk_drew ?_ | refine blk_alloc ?_ _)); exact BK682.out⟩
   have n2_ : Aside0 (((w43.setCell ⟨gb693, 0, none⟩ (.int .i64 t691)).setCell ⟨gb693, 1, none⟩ (.int .i64 t692)).heap[gb693]? = some (.cells #[.int .i64 t691, .int .i64 t692] 24 (0, 0))) := ⟨by (with_reducible repeat (first | refine blk_drewN ?_ _ | refine blk_drew ?_ | refine blk_alloc ?_ _)); refine blk_put (cs := #[.int .i64 t691, .int .i64 0]) ?_ 1 _ rfl; (with_reducible repeat (first | refine blk_drewN ?_ _ | refine blk_drew ?_ | refine blk_alloc ?_ _)); refine blk_put (cs := #[.int .i64 0, .int .i64 0]) ?_ 0 _ rfl; (with_reducible repeat (first | refine blk_drewN ?_ _ | refine blk_drew ?_ | refine blk_alloc ?_ _)); exact BK693.out⟩
   have n3_ : Aside0 (Below w.heap.size w ((w43.setCell ⟨gb693, 0, none⟩ (.int .i64 t691)).setCell ⟨gb693, 1, none⟩ (.int .i64 t692))) := ⟨bs2_ HB GE682 GE693⟩
   (try clear HO689)
   (try clear BK682)
   (try clear BK693)
   (try clear HB)
   generalize ((w43.setCell ⟨gb693, 0, none⟩ (.int .i64 t691)).setCell ⟨gb693, 1, none⟩ (.int .i64 t692)) = w46 at n0_ n1_ n2_ n3_ ⊢
   have HO689 := n0_
   have BK682 := n1_
   have BK693 := n2_
   have HB := n3_
   clear n0_ n1_ n2_ n3_
   have n0_ := mk_ (Kd.R_drew HO689.out)
   have n1_ := mk_ (blk_drew BK682.out)
   have n2_ := mk_ (blk_drew BK693.out)
   have n3_ := mk_ (below_drew1 HB.out)
   clear HO689
   clear BK682
   clear BK693
   clear HB
   have HO689 := n0_
   have BK682 := n1_
   have BK693 := n2_
   have HB := n3_
   clear n0_ n1_ n2_ n3_
   obtain ⟨Ao48, co48, eo48⟩ := Kd.R_slice HO689.out
   (first | subst eo48 | (injection eo48 with f1_ f2_ f3_; have f4_ := f1_.symm; have f5_ := f3_.symm; clear f1_ f2_ f3_; subst f4_; subst f5_))
   refine start_ (n := 23) (S := fun w' => w'.cell? ⟨gb693, 0, none⟩ = some (.int .i64 t691) ∧ w'.cell? ⟨gb693, 1, none⟩ = some (.int .i64 t692) ∧ w'.cell? ⟨gb682, 0, none⟩ = some (.int .i64 a1_0) ∧ w'.cell? ⟨gb682, 1, none⟩ = some (.int .i64 a1_1)) (ds := []) #[n_, n_, n_, n_, n_, n_, n_, n_, n_, n_, n_, n_, n_, n_, n_, n_, n_, n_, n_, n_, n_, n_, n_] (by kernel_rfl) rfl rfl ⟨(blk_cell BK693.out 0).trans rfl, (blk_cell BK693.out 1).trans rfl, (blk_cell BK682.out 0).trans rfl, (blk_cell BK682.out 1).trans rfl⟩ (fun hHeld => ?_); refine with_tabW cohousinglaw05_PiecewiseScales.tab9 cohousinglaw05_PiecewiseScales.bits9 (fun HT_ HW_ => ?_)
   generalize w46.drew = w47 at HO689 BK682 BK693 HB hHeld ⊢
   refine pu_ 0 61 (w_ 23 1) rfl HT_ ?_
   refine pu_ 1 62 (w_ 23 3) rfl HT_ ?_
   refine pu_ 2 63 (w_ 23 7) rfl HT_ ?_
   refine one_ (i := 3) (N := some 64) (w_ 23 15) rfl rfl (one_of HT_.out (by kernel_rfl)) (by decide) (fun K hK => ?_)
   refine goes_ Try.func15 (by kernel_rfl) rfl #[.slice Ao48 t687.length co48] (by rfl) rfl rfl (by (try simp only [List.map_toArray, List.map_cons, List.map_nil]); first | done | rfl | (simp only [List.length_drop, List.length_take]; rfl)) ?_
   with_reducible refine (cohousingref05_Valid.calls kj4 _ _ t687 true _ ?side1 ?side2 A36.out).mono ?_
   (case side1 => exact cc_ ((Kd.R_reads' HO689.out).2.2))
   (case side2 => exact (Kd.R_reads' HO689.out).2.1)
   rintro e w49 ⟨rfl, hb⟩
   refine ⟨_, rfl, ?_⟩
   have n0_ := mk_ (Kd.R_below (rr_ HO689) hb)
   have n1_ := mk_ (blk_below (kk_ BK682) hb)
   have n2_ := mk_ (blk_below (kk_ BK693) hb)
   have n3_ := mk_ (below_step (bs2_ HB GE682 GE693) hb)
   clear HO689
   clear BK682
   clear BK693
   clear HB
   have HO689 := n0_
   have BK682 := n1_
   have BK693 := n2_
   have HB := n3_
   clear n0_ n1_ n2_ n3_
   (try clear hb)
   (try clear hb2)
   (try clear hk)
   (try clear hi)
   refine hK.out _ _ ⟨(blk_cell BK693.out 0).trans rfl, (blk_cell BK693.out 1).trans rfl, (blk_cell BK682.out 0).trans rfl, (blk_cell BK682.out 1).trans rfl⟩ (fun hHeld => ?_)
   clear hK K
   refine norm_ (a' := ?_) ?_ ?_
   rotate_left
   ·show Act.put _ (some 64) _ = _
    simp only [Act.put, sI_, s0_, sS_, i64_w, i32_w]
    rfl
   refine pu_ 4 65 (w_ 23 31) rfl HT_ ?_
   refine pu_ 5 66 (w_ 23 63) rfl HT_ ?_
   refine pu_ 6 67 (w_ 23 127) rfl HT_ ?_
   refine pu_ 7 68 (w_ 23 255) rfl HT_ ?_
   refine pu_ 9 70 (w_ 23 767) rfl HT_ ?_
   refine pu_ 11 72 (w_ 23 2815) rfl HT_ ?_
   refine pu_ 14 75 (w_ 23 19199) rfl HT_ ?_
   refine pu_ 16 77 (w_ 23 84735) rfl HT_ ?_
   refine ta_ 10 71 (w_ 23 85759) rfl HT_ HW_ hHeld (by rintro w' ⟨s0, s1, s2, s3⟩; go_simp; with_reducible rfl) ?_
   refine ta_ 12 73 (w_ 23 89855) rfl HT_ HW_ hHeld (by rintro w' ⟨s0, s1, s2, s3⟩; go_simp; with_reducible rfl) ?_
   refine pu_ 13 74 (w_ 23 98047) rfl HT_ ?_
   refine ta_ 15 76 (w_ 23 130815) rfl HT_ HW_ hHeld (by rintro w' ⟨s0, s1, s2, s3⟩; go_simp; with_reducible rfl) ?_
   refine ta_ 17 78 (w_ 23 261887) rfl HT_ HW_ hHeld (by rintro w' ⟨s0, s1, s2, s3⟩; go_simp; with_reducible rfl) ?_
   refine pu_ 18 79 (w_ 23 524031) rfl HT_ ?_
   refine one_ (i := 8) (N := some 69) (w_ 23 524287) rfl rfl (one_of HT_.out (by kernel_rfl)) (by decide) (fun K hK => ?_)
   refine goes_ Try.func27 (by kernel_rfl) rfl #[.slice Ao48 t687.length co48, .int .i64 t686] (by rfl) rfl rfl (by (try simp only [List.map_toArray, List.map_cons, List.map_nil]); first | done | rfl | (simp only [List.length_drop, List.length_take]; rfl)) ?_
   with_reducible refine (cohousingref05_Value.calls kj4 _ _ t687 t686 t695 t696 _ ?side1 ?side2 A38.out).mono ?_
   (case side1 => exact cc_ ((Kd.R_reads' HO689.out).2.2))
   (case side2 => exact (Kd.R_reads' HO689.out).2.1)
   rintro e w50 ⟨rfl, hb⟩
   refine ⟨_, rfl, ?_⟩
   have n0_ := mk_ (Kd.R_below (rr_ HO689) hb)
   have n1_ := mk_ (blk_below (kk_ BK682) hb)
   have n2_ := mk_ (blk_below (kk_ BK693) hb)
   have n3_ := mk_ (below_step (bs2_ HB GE682 GE693) hb)
   clear HO689
   clear BK682
   clear BK693
   clear HB
   have HO689 := n0_
   have BK682 := n1_
   have BK693 := n2_
   have HB := n3_
   clear n0_ n1_ n2_ n3_
   (try clear hb)
   (try clear hb2)
   (try clear hk)
   (try clear hi)
   refine hK.out _ _ ⟨(blk_cell BK693.out 0).trans rfl, (blk_cell BK693.out 1).trans rfl, (blk_cell BK682.out 0).trans rfl, (blk_cell BK682.out 1).trans rfl⟩ (fun hHeld => ?_)
   clear hK K
   refine norm_ (a' := ?_) ?_ ?_
   rotate_left
   ·show Act.put _ (some 69) _ = _
    simp only [Act.put, sI_, s0_, sS_, i64_w, i32_w]
    rfl
   refine one_ (i := 19) (N := some 80) (w_ 23 1048575) rfl rfl (one_of HT_.out (by kernel_rfl)) (by decide) (fun K hK => ?_)
   refine goes_ Try.func32 (by kernel_rfl) rfl #[.int .i64 (wrap64 (t691 * a1_0)), .int .i64 (wrap64 (t692 * a1_1))] (by rfl) rfl rfl (by (try simp only [List.map_toArray, List.map_cons, List.map_nil]); first | done | rfl | (simp only [List.length_drop, List.length_take]; rfl)) ?_
   with_reducible refine (cohousingref05_Reduce.calls kj4 (wrap64 (t691 * a1_0)) (wrap64 (t692 * a1_1)) t697 t698 _ A39.out).mono ?_
   rintro e w51 ⟨rfl, hb⟩
   refine ⟨_, rfl, ?_⟩
   have n0_ := mk_ (Kd.R_below (rr_ HO689) hb)
   have n1_ := mk_ (blk_below (kk_ BK682) hb)
   have n2_ := mk_ (blk_below (kk_ BK693) hb)
   have n3_ := mk_ (below_step (bs2_ HB GE682 GE693) hb)
   clear HO689
   clear BK682
   clear BK693
   clear HB
   have HO689 := n0_
   have BK682 := n1_
   have BK693 := n2_
   have HB := n3_
   clear n0_ n1_ n2_ n3_
   (try clear hb)
   (try clear hb2)
   (try clear hk)
   (try clear hi)
   refine hK.out _ _ ⟨(blk_cell BK693.out 0).trans rfl, (blk_cell BK693.out 1).trans rfl, (blk_cell BK682.out 0).trans rfl, (blk_cell BK682.out 1).trans rfl⟩ (fun hHeld => ?_)
   clear hK K
   refine norm_ (a' := ?_) ?_ ?_
   rotate_left
   ·show Act.put _ (some 80) _ = _
    simp only [Act.put, sI_, s0_, sS_, i64_w, i32_w]
    rfl
   refine pu_ 20 81 (w_ 23 2097151) rfl HT_ ?_
   refine pu_ 21 82 (w_ 23 4194303) rfl HT_ ?_
   refine pu_ 22 6 (w_ 23 8388607) rfl HT_ ?_
   refine done_ (done_of HT_.out (by kernel_rfl)) ?_
   try go_wp2
   go_ret
   exact ⟨ew_, bs2_ HB GE682 GE693⟩
end
end Go.Proofs.Ytmhimmodigeeiaa.P
end
section
namespace Go.Proofs.Ytmhimmodigeeiaa.P
open Go.RowKit Go.Proofs.YtmhimmodigeeiaaW.PrintWords Go.Proofs.YtmhimmodigeeiaaW.PrintLast Go.Proofs.YtmhimmodigeeiaaW.PrintMore
set_option linter.unusedVariables false
set_option linter.unusedSimpArgs false
open Classical
theorem sc_line {a b : Int} {f : List PC} (hf : FOk f) {x : Int} {i : Nat} (hi : atI f x i) : lastE x (scEs a b f) = lineS a b (pA f i) := by
 have e : scEs a b f = (scEs a b f).take i ++ ((lineS a b (pA f i), (pA f i).f0) :: []) ++ (scEs a b f).drop (i + 1) := by
  have h := List.take_append_drop i (scEs a b f)
  rw [drop_sc hi.1] at h
  rw [List.append_assoc]
  exact h.symm
 have hl : (scEs a b f).length = f.length := by unfold scEs; rw [List.length_map]
 have hat : ∀ j (h : j < (scEs a b f).length), (scEs a b f)[j].2 = (pA f j).f0 := fun j h => by
  rw [pA_get (show j < f.length by omega)]
  simp [scEs]
 rw [e, lastE_mid (fun e he => ?_) hi.2.1 (fun e he => ?_)]
 ·rfl
 ·obtain ⟨j, hj, rfl⟩ := List.mem_iff_getElem.1 he
  rw [List.length_take] at hj
  rw [List.getElem_take, hat]
  exact (at_le hf hi (by omega)).2 (by omega)
 ·obtain ⟨j, hj, rfl⟩ := List.mem_iff_getElem.1 he
  rw [List.length_drop] at hj
  rw [List.getElem_drop, hat]
  rcases Int.lt_or_le x (pA f (i + 1 + j)).f0 with h | h
  ·exact h
  ·have := (at_le hf hi (show i + 1 + j < f.length by omega)).1 h
   omega
theorem scales_ (f : List PC) (hIf : ∀ p ∈ f, IBP p) (a b : Int) (ha : IB a) (hb : IB b) (c : Int) (hc : 0 ≤ c ∧ c ≤ 4294967295) : Ev (fun k => cohousinglaw05_PiecewiseScales.f k f a b c) true := by
 obtain ⟨bb, hb1, hb2⟩ := both_ev f f hIf hIf
 have skip : Ev (fun k => cohousinglaw05_PiecewiseScales.j0 k f c true true a b) true := by
  refine Ev.step ?_
  simp only [cohousinglaw05_PiecewiseScales.j0, if_true]
  exact Ev.pure _
 unfold cohousinglaw05_PiecewiseScales.f
 refine Ev.bnd head_ev (Ev.bnd hb1 ?_)
 cases bb with
 | false =>
  simp only [Bool.false_eq_true, if_false]
  exact skip
 | true =>
  obtain ⟨hf, _⟩ := hb2 rfl
  simp only [if_true]
  refine Ev.bnd (rv_ref ha hb) ?_
  by_cases hr : RV a b
  case neg =>
   simp only [decide_eq_false hr, Bool.false_eq_true, if_false]
   exact skip
  simp only [decide_eq_true hr, if_true]
  by_cases c1 : a > 1000
  ·simp only [c1, if_true]
   exact skip
  by_cases c2 : a < -1000
  ·simp only [c1, c2, if_true, if_false]
   exact skip
  by_cases c3 : b > 1000
  ·simp only [c1, c2, c3, if_false, decide_true]
   exact skip
  simp only [c1, c2, c3, if_false, decide_false]
  obtain ⟨x, hx, h0, h1⟩ := place_eq hc.1 hc.2
  have hbp : 0 < b := by have := hr.1; omega
  have hes := scEs_es (a := a) hbp hf
  refine Ev.step ?_
  simp only [cohousinglaw05_PiecewiseScales.j0, Bool.false_eq_true, if_false, hx, Option.bind_some]
  refine Ev.bnd (scale_ev hr hf) ?_
  rcases scR_cases (a := a) (b := b) hf with e | ⟨e, hok, hlen⟩
  ·rw [e]
   have z : ((3 : Int) = 0) = False := by simp
   simp only [z, if_false, if_true, List.length_nil]
   exact Ev.pure _
  ·rw [e]
   have hfo := out_fok hes hok hlen
   obtain ⟨i, hi⟩ := ex_at hf h0
   have hv := out_value hes hfo h0 (show x ≤ 100001 by omega)
   have hp := hf.pok hi.1
   rw [sc_line hf hi, num_S hp] at hv
   have hd := hp.dpos
   have b1 := red_LB (hf.lb hi.1) h0 (show x ≤ 100001 by omega)
   have e1 := mul_in b1.1.1 b1.1.2 (show -1000 ≤ a by omega) (show a ≤ 1000 by omega)
   have e2 := mul_pos_in b1.2.1 b1.2.2 (show 1 ≤ b by omega) (show b ≤ 1000 by omega)
   have hm := red_mul (n := num (lineL (pA f i)) x) (m := a) hd hbp
   have hq := reduce_ev (n := (red (num (lineL (pA f i)) x) (lineL (pA f i)).d).1 * a) (d := (red (num (lineL (pA f i)) x) (lineL (pA f i)).d).2 * b) (by omega) (by omega) (by omega) (by omega)
   rw [hm] at hq
   have w1 : wrap64 ((red (num (lineL (pA f i)) x) (lineL (pA f i)).d).1 * a) = (red (num (lineL (pA f i)) x) (lineL (pA f i)).d).1 * a := wrap_id (by omega) (by omega)
   have w2 : wrap64 ((red (num (lineL (pA f i)) x) (lineL (pA f i)).d).2 * b) = (red (num (lineL (pA f i)) x) (lineL (pA f i)).d).2 * b := wrap_id (by omega) (by omega)
   simp only [if_true]
   refine Ev.bnd (value_ev hf hi h0 (show x ≤ 100001 from Int.le_trans h1 (by decide))) ?_
   refine Ev.bnd (rvalid_ev _ (fok_ib hfo)) ?_
   simp only [decide_eq_true hfo, if_true, w1, w2]
   refine Ev.bnd hv (Ev.bnd hq ?_)
   have ed : (lineS a b (pA f i)).d = (lineL (pA f i)).d * b := rfl
   simp only [ed, beq_self_eq_true, Bool.and_self]
   exact Ev.pure _
end Go.Proofs.Ytmhimmodigeeiaa.P
end
