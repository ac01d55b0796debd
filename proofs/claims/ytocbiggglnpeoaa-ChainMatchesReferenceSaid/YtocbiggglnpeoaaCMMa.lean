/- Part 1 of the proof of ChainMatchesReference: what it alone needs. -/
import Derived.Test.YtocbiggglnpeoaaCMl
set_option linter.unusedVariables false
set_option linter.unusedSimpArgs false
section
namespace Go.Proofs.Ytocbiggglnpeoaa.M
open Go.RowKit Go.Proofs.YtocbiggglnpeoaaW.PrintWords Go.Proofs.YtocbiggglnpeoaaW.PrintLast Go.Proofs.YtocbiggglnpeoaaW.PrintMore
attribute [local go_sem] max2_int min2_int max_two min_two max_three min_three max_four min_four
set_option linter.unusedVariables false
set_option linter.unusedSimpArgs false
def cohousinglaw26_ChainMatchesReference.j0 : Nat → List (S49) → Int → List (S55) → List (S51) → List Int → Bool → Bool → List (S84) → List (S46) → Option (Bool)
 | 0, _, _, _, _, _, _, _, _, _ => none
 | k + 1, x1, x2, x3, x4, x5, x13, x43, x354000, x354001 => if x43 = true then (some x13) else ((chain_Run.f x354000 x354001 x1 x2 x3).bind fun bt357 => ((cohousingref26_Run.f k x354000 x354001 x1 x2 x3).bind fun bt364 => ((chain_Next.f x354000 x354001 x4 x5).bind fun bt371 => ((cohousingref26_Next.f k x354000 x354001 x4 x5).bind fun bt379 => (if x13 = true then ((cohousingref26_SameMoves.f k bt357.1 bt364.1).bind fun t387 => (if t387 = true then ((cohousingref23_SameInts.f k bt357.2.1 bt364.2.1).bind fun t388 => (if t388 = true then (if bt357.2.2 = bt364.2.2 then ((cohousingref23_Same.f k bt371.1 bt371.2.1 bt379.1 bt379.2.1).bind fun t389 => (if t389 = true then (some (bt371.2.2 == bt379.2.2)) else (some false))) else (some false)) else (some false))) else (some false))) else (some false))))))
def cohousinglaw26_ChainMatchesReference.f (k : Nat) (l0_0 : List (S84)) (l0_1 : List (S46)) (l1 : List (S49)) (a2 : Int) (l3 : List (S55)) (l4 : List (S51)) (l5 : List Int) : Option (Bool) := (cohousinglaw26_head.f k).bind fun t354 => ((cohousingref23_Few.f k l0_0 l0_1).bind fun t355 => (if t355 = true then ((cohousingref26_Few.f k l1 l3).bind fun t356 => (if t356 = true then (if (l4.length : Int) > 30 then (cohousinglaw26_ChainMatchesReference.j0 k l1 a2 l3 l4 l5 t354 true l0_0 l0_1) else (cohousinglaw26_ChainMatchesReference.j0 k l1 a2 l3 l4 l5 t354 (decide ((l5.length : Int) > 30)) l0_0 l0_1)) else (cohousinglaw26_ChainMatchesReference.j0 k l1 a2 l3 l4 l5 t354 true l0_0 l0_1))) else (cohousinglaw26_ChainMatchesReference.j0 k l1 a2 l3 l4 l5 t354 true l0_0 l0_1)))
set_option maxHeartbeats 8000000 in
set_option maxRecDepth 100000 in
theorem cohousinglaw26_ChainMatchesReference.calls (k : Nat) (A0_0 : Option Addr) (c0_0 : Nat) (l0_0 : List (S84)) (A0_1 : Option Addr) (c0_1 : Nat) (l0_1 : List (S46)) (A1 : Option Addr) (c1 : Nat) (l1 : List (S49)) (a2 : Int) (A3 : Option Addr) (c3 : Nat) (l3 : List (S55)) (A4 : Option Addr) (c4 : Nat) (l4 : List (S51)) (A5 : Option Addr) (c5 : Nat) (l5 : List Int) (r : Bool) (w : World) (hr0_0 : Kd.C k84 w A0_0 l0_0.length l0_0) (hc0_0 : l0_0.length ≤ c0_0) (hr0_1 : Kd.C k46 w A0_1 l0_1.length l0_1) (hc0_1 : l0_1.length ≤ c0_1) (hr1 : Kd.C k49 w A1 l1.length l1) (hc1 : l1.length ≤ c1) (hr3 : Kd.C k55 w A3 l3.length l3) (hc3 : l3.length ≤ c3) (hr4 : Kd.C k51 w A4 l4.length l4) (hc4 : l4.length ≤ c4) (hr5 : Kd.C (Kd.int .i64) w A5 l5.length l5) (hc5 : l5.length ≤ c5) (h : cohousinglaw26_ChainMatchesReference.f k l0_0 l0_1 l1 a2 l3 l4 l5 = some r) (hr_ : r = true := by rfl) :
  Calls Try.prog 3 #[.agg #[.slice A0_0 l0_0.length c0_0, .slice A0_1 l0_1.length c0_1], .slice A1 l1.length c1, .int .i64 a2, .slice A3 l3.length c3, .slice A4 l4.length c4, .slice A5 l5.length c5] w fun e w' => e = .returned (.bool r) ∧ Below w.heap.size w w' := by
 subst hr_
 have hu25 := Try.underlying25
 have HR0_0 := mk_ hr0_0
 have HC0_0 := mk_ hc0_0
 clear hr0_0 hc0_0
 have HR0_1 := mk_ hr0_1
 have HC0_1 := mk_ hc0_1
 clear hr0_1 hc0_1
 have HR1 := mk_ hr1
 have HC1 := mk_ hc1
 clear hr1 hc1
 have HR3 := mk_ hr3
 have HC3 := mk_ hc3
 clear hr3 hc3
 have HR4 := mk_ hr4
 have HC4 := mk_ hc4
 clear hr4 hc4
 have HR5 := mk_ hr5
 have HC5 := mk_ hc5
 clear hr5 hc5
 have HB := mk_ (Below.refl w.heap.size w)
 have H : ((cohousinglaw26_head.f k).bind fun t354 => ((cohousingref23_Few.f k l0_0 l0_1).bind fun t355 => (if t355 = true then ((cohousingref26_Few.f k l1 l3).bind fun t356 => (if t356 = true then (if (l4.length : Int) > 30 then (cohousinglaw26_ChainMatchesReference.j0 k l1 a2 l3 l4 l5 t354 true l0_0 l0_1) else (cohousinglaw26_ChainMatchesReference.j0 k l1 a2 l3 l4 l5 t354 (decide ((l5.length : Int) > 30)) l0_0 l0_1)) else (cohousinglaw26_ChainMatchesReference.j0 k l1 a2 l3 l4 l5 t354 true l0_0 l0_1))) else (cohousinglaw26_ChainMatchesReference.j0 k l1 a2 l3 l4 l5 t354 true l0_0 l0_1)))) = some true := h
 clear h
 replace H := Option.bind_eq_some_iff.mp H
 obtain ⟨t354, A70, H⟩ := H
 replace H : ((cohousingref23_Few.f k l0_0 l0_1).bind fun t355 => (if t355 = true then ((cohousingref26_Few.f k l1 l3).bind fun t356 => (if t356 = true then (if (l4.length : Int) > 30 then (cohousinglaw26_ChainMatchesReference.j0 k l1 a2 l3 l4 l5 t354 true l0_0 l0_1) else (cohousinglaw26_ChainMatchesReference.j0 k l1 a2 l3 l4 l5 t354 (decide ((l5.length : Int) > 30)) l0_0 l0_1)) else (cohousinglaw26_ChainMatchesReference.j0 k l1 a2 l3 l4 l5 t354 true l0_0 l0_1))) else (cohousinglaw26_ChainMatchesReference.j0 k l1 a2 l3 l4 l5 t354 true l0_0 l0_1))) = some true := H
 have A7 := mk_ A70
 clear A70
 have HC8 := mk_ H
 clear H
 go_enter Try.func3, Try.ntmps3
 go_upto_region 2 with (first | ((with_reducible refine gate_dst (N := 6) rfl ?_); (try (refine gate_guard (by rfl) ?_; dsimp only)); refine box_event ?hg (N := 6) ?hd (cs := #[.slice A0_0 l0_0.length c0_0, .slice A0_1 l0_1.length c0_1]) (t := 25) ?hr ?_; (case hd => rfl); (case hg => rfl); (case hr => first | (go_simp; done) | (go_simp; rfl)); intro gb353 hg w9 hbox hb; have n0_ := mk_ (below_step (bb_ HB) hb); have n1_ := mk_ (hbox); have n2_ := mk_ (bz_ hg (bb_ HB)); have n3_ := mk_ (bz_ hg (bb_ HB)); clear HB; revert n0_ n1_ n2_ n3_; intro HB BK353 GW353 GE353; clear hb hbox hg) | ((with_reducible refine gate_callee (f := 10) rfl ?_); refine gl_ (some 24) Try.func10 #[] ?_; (with_reducible refine (cohousinglaw26_head.calls k  t354 _ A7.out).mono ?_); rintro e w10 ⟨rfl, hb⟩; refine ⟨_, rfl, ?_⟩; have n0_ := mk_ (blk_below (kk_ BK353) hb); have n1_ := mk_ (below_step (bs_ HB GE353.out) hb); clear BK353 HB; revert n0_ n1_; intro BK353 HB; (try clear hb); (try clear hb2); (try clear hk); (try clear hi)))
 (try simp only [Act.put, sI_, s0_, sS_])
 go_cut [43] (fun v43 wc => ∃ (kq : Nat) (x43_7 : Bool), v43 = .bool x43_7 ∧ Aside0 (cohousinglaw26_ChainMatchesReference.j0 kq l1 a2 l3 l4 l5 t354 x43_7 l0_0 l0_1 = some true) ∧ Aside0 (kq ≤ k) ∧ Aside0 (wc.heap[gb353]? = some (.cells #[(.slice A0_0 l0_0.length c0_0), (.slice A0_1 l0_1.length c0_1)] 25 (0, 0))) ∧ Aside0 (Below w.heap.size w wc))
 case first =>
  have H := HC8.out
  clear HC8
  replace H := Option.bind_eq_some_iff.mp H
  obtain ⟨t355, A110, H⟩ := H
  replace H : (if t355 = true then ((cohousingref26_Few.f k l1 l3).bind fun t356 => (if t356 = true then (if (l4.length : Int) > 30 then (cohousinglaw26_ChainMatchesReference.j0 k l1 a2 l3 l4 l5 t354 true l0_0 l0_1) else (cohousinglaw26_ChainMatchesReference.j0 k l1 a2 l3 l4 l5 t354 (decide ((l5.length : Int) > 30)) l0_0 l0_1)) else (cohousinglaw26_ChainMatchesReference.j0 k l1 a2 l3 l4 l5 t354 true l0_0 l0_1))) else (cohousinglaw26_ChainMatchesReference.j0 k l1 a2 l3 l4 l5 t354 true l0_0 l0_1)) = some true := H
  have A11 := mk_ A110
  clear A110
  by_cases c12 : t355 = true
  rotate_left
  ·replace c12 := Bool.eq_false_iff.mpr c12
   subst c12
   have H1 : (cohousinglaw26_ChainMatchesReference.j0 k l1 a2 l3 l4 l5 t354 true l0_0 l0_1) = some true := by rw [if_neg (show ¬ (false = true) by decide)] at H; exact H
   clear H
   have H := H1
   clear H1
   have H' := mk_ H
   clear H
   have hcz22_0 := bc0_ BK353.out
   have hcz22_1 := bc1_ BK353.out
   have hfz22_0 := blk_frozen BK353.out 0
   have hfz22_1 := blk_frozen BK353.out 1
   go_wp2_with (first | ((with_reducible refine gate_callee (f := 11) rfl ?_); refine gl_ (some 26) Try.func11 #[.agg #[.slice A0_0 l0_0.length c0_0, .slice A0_1 l0_1.length c0_1]] ?_; (with_reducible refine (cohousingref23_Few.calls k _ _ l0_0 _ _ l0_1 false _ ?side1 ?side2 ?side3 ?side4 A11.out).mono ?_); (case side1 => exact cc_ ((Kd.C_below HR0_0.out HB.out))); (case side2 => exact HC0_0.out); (case side3 => exact cc_ ((Kd.C_below HR0_1.out HB.out))); (case side4 => exact HC0_1.out); rintro e w23 ⟨rfl, hb⟩; refine ⟨_, rfl, ?_⟩; have n0_ := mk_ (blk_below (kk_ BK353) hb); have n1_ := mk_ (below_step (bs_ HB GE353.out) hb); clear BK353 HB; revert n0_ n1_; intro BK353 HB; (try clear hb); (try clear hb2); (try clear hk); (try clear hi)))
   go_meet
   case rel => exact ⟨_, (true), sd_, H', ⟨by first | omega | exact Nat.le_refl _⟩, ⟨kk_ BK353⟩, ⟨bs1_ HB GE353⟩⟩
  subst c12
  have H1 : ((cohousingref26_Few.f k l1 l3).bind fun t356 => (if t356 = true then (if (l4.length : Int) > 30 then (cohousinglaw26_ChainMatchesReference.j0 k l1 a2 l3 l4 l5 t354 true l0_0 l0_1) else (cohousinglaw26_ChainMatchesReference.j0 k l1 a2 l3 l4 l5 t354 (decide ((l5.length : Int) > 30)) l0_0 l0_1)) else (cohousinglaw26_ChainMatchesReference.j0 k l1 a2 l3 l4 l5 t354 true l0_0 l0_1))) = some true := by rw [if_pos rfl] at H; exact H
  clear H
  have H := H1
  clear H1
  replace H := Option.bind_eq_some_iff.mp H
  obtain ⟨t356, A130, H⟩ := H
  replace H : (if t356 = true then (if (l4.length : Int) > 30 then (cohousinglaw26_ChainMatchesReference.j0 k l1 a2 l3 l4 l5 t354 true l0_0 l0_1) else (cohousinglaw26_ChainMatchesReference.j0 k l1 a2 l3 l4 l5 t354 (decide ((l5.length : Int) > 30)) l0_0 l0_1)) else (cohousinglaw26_ChainMatchesReference.j0 k l1 a2 l3 l4 l5 t354 true l0_0 l0_1)) = some true := H
  have A13 := mk_ A130
  clear A130
  by_cases c14 : t356 = true
  rotate_left
  ·replace c14 := Bool.eq_false_iff.mpr c14
   subst c14
   have H1 : (cohousinglaw26_ChainMatchesReference.j0 k l1 a2 l3 l4 l5 t354 true l0_0 l0_1) = some true := by rw [if_neg (show ¬ (false = true) by decide)] at H; exact H
   clear H
   have H := H1
   clear H1
   have H' := mk_ H
   clear H
   have hcz20_0 := bc0_ BK353.out
   have hcz20_1 := bc1_ BK353.out
   have hfz20_0 := blk_frozen BK353.out 0
   have hfz20_1 := blk_frozen BK353.out 1
   go_wp2_with (first | ((with_reducible refine gate_callee (f := 11) rfl ?_); refine gl_ (some 26) Try.func11 #[.agg #[.slice A0_0 l0_0.length c0_0, .slice A0_1 l0_1.length c0_1]] ?_; (with_reducible refine (cohousingref23_Few.calls k _ _ l0_0 _ _ l0_1 true _ ?side1 ?side2 ?side3 ?side4 A11.out).mono ?_); (case side1 => exact cc_ ((Kd.C_below HR0_0.out HB.out))); (case side2 => exact HC0_0.out); (case side3 => exact cc_ ((Kd.C_below HR0_1.out HB.out))); (case side4 => exact HC0_1.out); rintro e w21 ⟨rfl, hb⟩; refine ⟨_, rfl, ?_⟩; have n0_ := mk_ (blk_below (kk_ BK353) hb); have n1_ := mk_ (below_step (bs_ HB GE353.out) hb); clear BK353 HB; revert n0_ n1_; intro BK353 HB; (try clear hb); (try clear hb2); (try clear hk); (try clear hi)) | (go_at_call 12; (with_reducible refine (cohousingref26_Few.calls k _ _ l1 _ _ l3 false _ ?side1 ?side2 ?side3 ?side4 A13.out).mono ?_); (case side1 => exact cc_ ((Kd.C_below HR1.out HB.out))); (case side2 => exact HC1.out); (case side3 => exact cc_ ((Kd.C_below HR3.out HB.out))); (case side4 => exact HC3.out); rintro e w' ⟨rfl, ⟨nd, rfl⟩⟩))
   go_meet
   case rel => exact ⟨_, (true), sd_, H', ⟨by first | omega | exact Nat.le_refl _⟩, ⟨kk_ BK353⟩, ⟨bs1_ HB GE353⟩⟩
  subst c14
  have H1 : (if (l4.length : Int) > 30 then (cohousinglaw26_ChainMatchesReference.j0 k l1 a2 l3 l4 l5 t354 true l0_0 l0_1) else (cohousinglaw26_ChainMatchesReference.j0 k l1 a2 l3 l4 l5 t354 (decide ((l5.length : Int) > 30)) l0_0 l0_1)) = some true := by rw [if_pos rfl] at H; exact H
  clear H
  have H := H1
  clear H1
  by_cases c15 : (l4.length : Int) > 30
  rotate_left
  ·rw [if_neg c15] at H
   have c15b0 : decide (30 < (l4.length : Int)) = false := decide_eq_false c15
   have c15b1 : decide (30 < l4.length) = false := decide_eq_false (by omega)
   clear c15
   (first | rw [c15b0] | (simp only [i64_w, i32_w]; rw [c15b0]) | skip)
   have H' := mk_ H
   clear H
   have hcz18_0 := bc0_ BK353.out
   have hcz18_1 := bc1_ BK353.out
   have hfz18_0 := blk_frozen BK353.out 0
   have hfz18_1 := blk_frozen BK353.out 1
   go_wp2_with (first | ((with_reducible refine gate_callee (f := 11) rfl ?_); refine gl_ (some 26) Try.func11 #[.agg #[.slice A0_0 l0_0.length c0_0, .slice A0_1 l0_1.length c0_1]] ?_; (with_reducible refine (cohousingref23_Few.calls k _ _ l0_0 _ _ l0_1 true _ ?side1 ?side2 ?side3 ?side4 A11.out).mono ?_); (case side1 => exact cc_ ((Kd.C_below HR0_0.out HB.out))); (case side2 => exact HC0_0.out); (case side3 => exact cc_ ((Kd.C_below HR0_1.out HB.out))); (case side4 => exact HC0_1.out); rintro e w19 ⟨rfl, hb⟩; refine ⟨_, rfl, ?_⟩; have n0_ := mk_ (blk_below (kk_ BK353) hb); have n1_ := mk_ (below_step (bs_ HB GE353.out) hb); clear BK353 HB; revert n0_ n1_; intro BK353 HB; (try clear hb); (try clear hb2); (try clear hk); (try clear hi)) | (go_at_call 12; (with_reducible refine (cohousingref26_Few.calls k _ _ l1 _ _ l3 true _ ?side1 ?side2 ?side3 ?side4 A13.out).mono ?_); (case side1 => exact cc_ ((Kd.C_below HR1.out HB.out))); (case side2 => exact HC1.out); (case side3 => exact cc_ ((Kd.C_below HR3.out HB.out))); (case side4 => exact HC3.out); rintro e w' ⟨rfl, ⟨nd, rfl⟩⟩))
   go_meet
   case rel => exact ⟨_, (decide ((l5.length : Int) > 30)), sd_, H', ⟨by first | omega | exact Nat.le_refl _⟩, ⟨kk_ BK353⟩, ⟨bs1_ HB GE353⟩⟩
  rw [if_pos c15] at H
  have c15b0 : decide (30 < (l4.length : Int)) = true := decide_eq_true c15
  have c15b1 : decide (30 < l4.length) = true := decide_eq_true (by omega)
  clear c15
  (first | rw [c15b0] | (simp only [i64_w, i32_w]; rw [c15b0]) | skip)
  have H' := mk_ H
  clear H
  have hcz16_0 := bc0_ BK353.out
  have hcz16_1 := bc1_ BK353.out
  have hfz16_0 := blk_frozen BK353.out 0
  have hfz16_1 := blk_frozen BK353.out 1
  go_wp2_with (first | ((with_reducible refine gate_callee (f := 11) rfl ?_); refine gl_ (some 26) Try.func11 #[.agg #[.slice A0_0 l0_0.length c0_0, .slice A0_1 l0_1.length c0_1]] ?_; (with_reducible refine (cohousingref23_Few.calls k _ _ l0_0 _ _ l0_1 true _ ?side1 ?side2 ?side3 ?side4 A11.out).mono ?_); (case side1 => exact cc_ ((Kd.C_below HR0_0.out HB.out))); (case side2 => exact HC0_0.out); (case side3 => exact cc_ ((Kd.C_below HR0_1.out HB.out))); (case side4 => exact HC0_1.out); rintro e w17 ⟨rfl, hb⟩; refine ⟨_, rfl, ?_⟩; have n0_ := mk_ (blk_below (kk_ BK353) hb); have n1_ := mk_ (below_step (bs_ HB GE353.out) hb); clear BK353 HB; revert n0_ n1_; intro BK353 HB; (try clear hb); (try clear hb2); (try clear hk); (try clear hi)) | (go_at_call 12; (with_reducible refine (cohousingref26_Few.calls k _ _ l1 _ _ l3 true _ ?side1 ?side2 ?side3 ?side4 A13.out).mono ?_); (case side1 => exact cc_ ((Kd.C_below HR1.out HB.out))); (case side2 => exact HC1.out); (case side3 => exact cc_ ((Kd.C_below HR3.out HB.out))); (case side4 => exact HC3.out); rintro e w' ⟨rfl, ⟨nd, rfl⟩⟩))
  go_meet
  case rel => exact ⟨_, (true), sd_, H', ⟨by first | omega | exact Nat.le_refl _⟩, ⟨kk_ BK353⟩, ⟨bs1_ HB GE353⟩⟩
 case rest =>
  clear HC8
  try clear c1; try clear p2; try clear c3; try clear c4; try clear c5; try clear c10; try clear c11; try clear c12; try clear c14; try clear c15; try clear c15b0; try clear c15b1; try clear hcz16_0; try clear hcz16_1; try clear hcz18_0; try clear hcz18_1; try clear hcz20_0; try clear hcz20_1; try clear hcz22_0; try clear hcz22_1; try clear hfz16_0; try clear hfz16_1; try clear hfz18_0; try clear hfz18_1; try clear hfz20_0; try clear hfz20_1; try clear hfz22_0; try clear hfz22_1
  obtain ⟨kq, x43_7, rfl, HA, HJ7, BK353, HB⟩ := hcut
  cases kq with
  | zero => exact absurd HA.out (by simp [cohousinglaw26_ChainMatchesReference.j0])
  | succ kj7 =>
   have H := HA.out
   clear HA
   simp only [cohousinglaw26_ChainMatchesReference.j0] at H
   by_cases c24 : x43_7 = true
   ·subst c24
    have H1 : (some t354) = some true := by rw [if_pos rfl] at H; exact H
    clear H
    have H := H1
    clear H1
    have hfin_ := Option.some.inj H
    go_wp2
    go_ret
    exact ⟨ew_, bs1_ HB GE353⟩
   replace c24 := Bool.eq_false_iff.mpr c24
   subst c24
   have H1 : ((chain_Run.f l0_0 l0_1 l1 a2 l3).bind fun bt357 => ((cohousingref26_Run.f kj7 l0_0 l0_1 l1 a2 l3).bind fun bt364 => ((chain_Next.f l0_0 l0_1 l4 l5).bind fun bt371 => ((cohousingref26_Next.f kj7 l0_0 l0_1 l4 l5).bind fun bt379 => (if t354 = true then ((cohousingref26_SameMoves.f kj7 bt357.1 bt364.1).bind fun t387 => (if t387 = true then ((cohousingref23_SameInts.f kj7 bt357.2.1 bt364.2.1).bind fun t388 => (if t388 = true then (if bt357.2.2 = bt364.2.2 then ((cohousingref23_Same.f kj7 bt371.1 bt371.2.1 bt379.1 bt379.2.1).bind fun t389 => (if t389 = true then (some (bt371.2.2 == bt379.2.2)) else (some false))) else (some false)) else (some false))) else (some false))) else (some false)))))) = some true := by rw [if_neg (show ¬ (false = true) by decide)] at H; exact H
   clear H
   have H := H1
   clear H1
   replace H := Option.bind_eq_some_iff.mp H
   obtain ⟨⟨t357, t360, t363⟩, A250, H⟩ := H
   replace H : ((cohousingref26_Run.f kj7 l0_0 l0_1 l1 a2 l3).bind fun bt364 => ((chain_Next.f l0_0 l0_1 l4 l5).bind fun bt371 => ((cohousingref26_Next.f kj7 l0_0 l0_1 l4 l5).bind fun bt379 => (if t354 = true then ((cohousingref26_SameMoves.f kj7 t357 bt364.1).bind fun t387 => (if t387 = true then ((cohousingref23_SameInts.f kj7 t360 bt364.2.1).bind fun t388 => (if t388 = true then (if t363 = bt364.2.2 then ((cohousingref23_Same.f kj7 bt371.1 bt371.2.1 bt379.1 bt379.2.1).bind fun t389 => (if t389 = true then (some (bt371.2.2 == bt379.2.2)) else (some false))) else (some false)) else (some false))) else (some false))) else (some false))))) = some true := H
   have A25 := mk_ A250
   clear A250
   replace H := Option.bind_eq_some_iff.mp H
   obtain ⟨⟨t364, t367, t370⟩, A260, H⟩ := H
   replace H : ((chain_Next.f l0_0 l0_1 l4 l5).bind fun bt371 => ((cohousingref26_Next.f kj7 l0_0 l0_1 l4 l5).bind fun bt379 => (if t354 = true then ((cohousingref26_SameMoves.f kj7 t357 t364).bind fun t387 => (if t387 = true then ((cohousingref23_SameInts.f kj7 t360 t367).bind fun t388 => (if t388 = true then (if t363 = t370 then ((cohousingref23_Same.f kj7 bt371.1 bt371.2.1 bt379.1 bt379.2.1).bind fun t389 => (if t389 = true then (some (bt371.2.2 == bt379.2.2)) else (some false))) else (some false)) else (some false))) else (some false))) else (some false)))) = some true := H
   have A26 := mk_ A260
   clear A260
   replace H := Option.bind_eq_some_iff.mp H
   obtain ⟨⟨t371, t374, t377⟩, A270, H⟩ := H
   replace H : ((cohousingref26_Next.f kj7 l0_0 l0_1 l4 l5).bind fun bt379 => (if t354 = true then ((cohousingref26_SameMoves.f kj7 t357 t364).bind fun t387 => (if t387 = true then ((cohousingref23_SameInts.f kj7 t360 t367).bind fun t388 => (if t388 = true then (if t363 = t370 then ((cohousingref23_Same.f kj7 t371 t374 bt379.1 bt379.2.1).bind fun t389 => (if t389 = true then (some (t377 == bt379.2.2)) else (some false))) else (some false)) else (some false))) else (some false))) else (some false))) = some true := H
   have A27 := mk_ A270
   clear A270
   replace H := Option.bind_eq_some_iff.mp H
   obtain ⟨⟨t379, t382, t385⟩, A280, H⟩ := H
   replace H : (if t354 = true then ((cohousingref26_SameMoves.f kj7 t357 t364).bind fun t387 => (if t387 = true then ((cohousingref23_SameInts.f kj7 t360 t367).bind fun t388 => (if t388 = true then (if t363 = t370 then ((cohousingref23_Same.f kj7 t371 t374 t379 t382).bind fun t389 => (if t389 = true then (some (t377 == t385)) else (some false))) else (some false)) else (some false))) else (some false))) else (some false)) = some true := H
   have A28 := mk_ A280
   clear A280
   by_cases c29 : t354 = true
   rotate_left
   ·replace c29 := Bool.eq_false_iff.mpr c29
    subst c29
    have H1 : (some false) = some true := by rw [if_neg (show ¬ (false = true) by decide)] at H; exact H
    clear H
    have H := H1
    clear H1
    exact absurd (Option.some.inj H) (by decide)
   subst c29
   have H1 : ((cohousingref26_SameMoves.f kj7 t357 t364).bind fun t387 => (if t387 = true then ((cohousingref23_SameInts.f kj7 t360 t367).bind fun t388 => (if t388 = true then (if t363 = t370 then ((cohousingref23_Same.f kj7 t371 t374 t379 t382).bind fun t389 => (if t389 = true then (some (t377 == t385)) else (some false))) else (some false)) else (some false))) else (some false))) = some true := by rw [if_pos rfl] at H; exact H
   clear H
   have H := H1
   clear H1
   replace H := Option.bind_eq_some_iff.mp H
   obtain ⟨t387, A300, H⟩ := H
   replace H : (if t387 = true then ((cohousingref23_SameInts.f kj7 t360 t367).bind fun t388 => (if t388 = true then (if t363 = t370 then ((cohousingref23_Same.f kj7 t371 t374 t379 t382).bind fun t389 => (if t389 = true then (some (t377 == t385)) else (some false))) else (some false)) else (some false))) else (some false)) = some true := H
   have A30 := mk_ A300
   clear A300
   by_cases c31 : t387 = true
   rotate_left
   ·replace c31 := Bool.eq_false_iff.mpr c31
    subst c31
    have H1 : (some false) = some true := by rw [if_neg (show ¬ (false = true) by decide)] at H; exact H
    clear H
    have H := H1
    clear H1
    exact absurd (Option.some.inj H) (by decide)
   subst c31
   have H1 : ((cohousingref23_SameInts.f kj7 t360 t367).bind fun t388 => (if t388 = true then (if t363 = t370 then ((cohousingref23_Same.f kj7 t371 t374 t379 t382).bind fun t389 => (if t389 = true then (some (t377 == t385)) else (some false))) else (some false)) else (some false))) = some true := by rw [if_pos rfl] at H; exact H
   clear H
   have H := H1
   clear H1
   replace H := Option.bind_eq_some_iff.mp H
   obtain ⟨t388, A320, H⟩ := H
   replace H : (if t388 = true then (if t363 = t370 then ((cohousingref23_Same.f kj7 t371 t374 t379 t382).bind fun t389 => (if t389 = true then (some (t377 == t385)) else (some false))) else (some false)) else (some false)) = some true := H
   have A32 := mk_ A320
   clear A320
   by_cases c33 : t388 = true
   rotate_left
   ·replace c33 := Bool.eq_false_iff.mpr c33
    subst c33
    have H1 : (some false) = some true := by rw [if_neg (show ¬ (false = true) by decide)] at H; exact H
    clear H
    have H := H1
    clear H1
    exact absurd (Option.some.inj H) (by decide)
   subst c33
   have H1 : (if t363 = t370 then ((cohousingref23_Same.f kj7 t371 t374 t379 t382).bind fun t389 => (if t389 = true then (some (t377 == t385)) else (some false))) else (some false)) = some true := by rw [if_pos rfl] at H; exact H
   clear H
   have H := H1
   clear H1
   by_cases c34 : t363 = t370
   rotate_left
   ·rw [if_neg c34] at H
    have c34b0 : (t363 == t370) = false := beq_eq_false_iff_ne.mpr c34
    have c34b1 : (t363 != t370) = true := bne_iff_ne.mpr c34
    exact absurd (Option.some.inj H) (by decide)
   rw [if_pos c34] at H
   have c34b0 : (t363 == t370) = true := beq_iff_eq.mpr c34
   have c34b1 : (t363 != t370) = false := bne_eq_false_iff_eq.mpr c34
   clear c34
   replace H := Option.bind_eq_some_iff.mp H
   obtain ⟨t389, A350, H⟩ := H
   replace H : (if t389 = true then (some (t377 == t385)) else (some false)) = some true := H
   have A35 := mk_ A350
   clear A350
   by_cases c36 : t389 = true
   rotate_left
   ·replace c36 := Bool.eq_false_iff.mpr c36
    subst c36
    have H1 : (some false) = some true := by rw [if_neg (show ¬ (false = true) by decide)] at H; exact H
    clear H
    have H := H1
    clear H1
    exact absurd (Option.some.inj H) (by decide)
   subst c36
   have H1 : (some (t377 == t385)) = some true := by rw [if_pos rfl] at H; exact H
   clear H
   have H := H1
   clear H1
   have hfin_ := Option.some.inj H
   have hcz37_0 := bc0_ BK353.out
   have hcz37_1 := bc1_ BK353.out
   have hfz37_0 := blk_frozen BK353.out 0
   have hfz37_1 := blk_frozen BK353.out 1
   go_wp2_with (first | ((with_reducible refine gate_callee (f := 13) rfl ?_); refine gl_ (some 50) Try.func13 #[.agg #[.slice A0_0 l0_0.length c0_0, .slice A0_1 l0_1.length c0_1], .slice A1 l1.length c1, .int .i64 a2, .slice A3 l3.length c3] ?_; (with_reducible refine (chain_Run.calls _ _ l0_0 _ _ l0_1 _ _ l1 a2 _ _ l3 t357 t360 t363 _ ?side1 ?side2 ?side3 ?side4 ?side5 ?side6 ?side7 ?side8 A25.out).mono ?_); (case side1 => exact cc_ ((Kd.C_below HR0_0.out HB.out))); (case side2 => exact HC0_0.out); (case side3 => exact cc_ ((Kd.C_below HR0_1.out HB.out))); (case side4 => exact HC0_1.out); (case side5 => exact cc_ ((Kd.C_below HR1.out HB.out))); (case side6 => exact HC1.out); (case side7 => exact cc_ ((Kd.C_below HR3.out HB.out))); (case side8 => exact HC3.out); rintro e w38 ⟨v358, v361, rfl, ho0, ho1, hb⟩; refine ⟨_, rfl, ?_⟩; have n0_ := mk_ (Kd.R_lower ho0 (below_size (bs_ HB GE353.out))); have n1_ := mk_ (Kd.R_lower ho1 (below_size (bs_ HB GE353.out))); have n2_ := mk_ (blk_below (kk_ BK353) hb); have n3_ := mk_ (below_step (bs_ HB GE353.out) hb); clear BK353 HB; revert n0_ n1_ n2_ n3_; intro HO359 HO362 BK353 HB; (try clear hb); (try clear hb2); (try clear hk); (try clear hi); (try clear ho0); (try clear ho1); have hcz39_0 := bc0_ BK353.out; have hcz39_1 := bc1_ BK353.out; have hfz39_0 := blk_frozen BK353.out 0; have hfz39_1 := blk_frozen BK353.out 1) | ((with_reducible refine gate_callee (f := 14) rfl ?_); refine gl_ (some 59) Try.func14 #[.agg #[.slice A0_0 l0_0.length c0_0, .slice A0_1 l0_1.length c0_1], .slice A1 l1.length c1, .int .i64 a2, .slice A3 l3.length c3] ?_; (with_reducible refine (cohousingref26_Run.calls kj7 _ _ l0_0 _ _ l0_1 _ _ l1 a2 _ _ l3 t364 t367 t370 _ ?side1 ?side2 ?side3 ?side4 ?side5 ?side6 ?side7 ?side8 A26.out).mono ?_); (case side1 => exact cc_ ((Kd.C_below HR0_0.out HB.out))); (case side2 => exact HC0_0.out); (case side3 => exact cc_ ((Kd.C_below HR0_1.out HB.out))); (case side4 => exact HC0_1.out); (case side5 => exact cc_ ((Kd.C_below HR1.out HB.out))); (case side6 => exact HC1.out); (case side7 => exact cc_ ((Kd.C_below HR3.out HB.out))); (case side8 => exact HC3.out); rintro e w40 ⟨v365, v368, rfl, ho0, ho1, hb⟩; refine ⟨_, rfl, ?_⟩; have n0_ := mk_ (Kd.R_elder' (rr_ HO359) (Kd.R_base ho0) hb); have n1_ := mk_ (Kd.R_elder' (rr_ HO362) (Kd.R_base ho1) hb); have n2_ := mk_ (Kd.R_lower (Kd.R_new' ho0 (Kd.R_lt (rr_ HO359))) (below_size (bs_ HB GE353.out))); have n3_ := mk_ (Kd.R_lower (Kd.R_new' ho1 (Kd.R_lt (rr_ HO362))) (below_size (bs_ HB GE353.out))); have n4_ := mk_ (blk_below (kk_ BK353) hb); have n5_ := mk_ (below_step (bs_ HB GE353.out) hb); clear HO359 HO362 BK353 HB; revert n0_ n1_ n2_ n3_ n4_ n5_; intro HO359 HO362 HO366 HO369 BK353 HB; (try clear hb); (try clear hb2); (try clear hk); (try clear hi); (try clear ho0); (try clear ho1); have hcz41_0 := bc0_ BK353.out; have hcz41_1 := bc1_ BK353.out; have hfz41_0 := blk_frozen BK353.out 0; have hfz41_1 := blk_frozen BK353.out 1) | ((with_reducible refine gate_callee (f := 15) rfl ?_); refine gl_ (some 67) Try.func15 #[.agg #[.slice A0_0 l0_0.length c0_0, .slice A0_1 l0_1.length c0_1], .slice A4 l4.length c4, .slice A5 l5.length c5] ?_; (with_reducible refine (chain_Next.calls _ _ l0_0 _ _ l0_1 _ _ l4 _ _ l5 t371 t374 t377 _ ?side1 ?side2 ?side3 ?side4 ?side5 ?side6 ?side7 ?side8 A27.out).mono ?_); (case side1 => exact cc_ ((Kd.C_below HR0_0.out HB.out))); (case side2 => exact HC0_0.out); (case side3 => exact cc_ ((Kd.C_below HR0_1.out HB.out))); (case side4 => exact HC0_1.out); (case side5 => exact cc_ ((Kd.C_below HR4.out HB.out))); (case side6 => exact HC4.out); (case side7 => exact cc_ ((Kd.C_below HR5.out HB.out))); (case side8 => exact HC5.out); rintro e w42 ⟨v372, v375, rfl, ho0, ho1, hb⟩; refine ⟨_, rfl, ?_⟩; have n0_ := mk_ (Kd.R_below (rr_ HO359) hb); have n1_ := mk_ (Kd.R_below (rr_ HO362) hb); have n2_ := mk_ (Kd.R_below (rr_ HO366) hb); have n3_ := mk_ (Kd.R_below (rr_ HO369) hb); have n4_ := mk_ (Kd.R_lower ho0 (below_size (bs_ HB GE353.out))); have n5_ := mk_ (Kd.N_lower (Kd.N_mono (ok' := fun k_ => some k_ ≠ (v372 : Value).ownBlock ∧ some k_ ≠ (v358 : Value).ownBlock ∧ some k_ ≠ (v361 : Value).ownBlock ∧ some k_ ≠ (v365 : Value).ownBlock ∧ some k_ ≠ (v368 : Value).ownBlock ∧ k_ ≠ gb353) (Kd.S_N (Kd.S_bound (Kd.S_apart' ho1 (Kd.R_typed ho0) (by decide)))) (fun k_ hk_ => ⟨hk_.1.2, (Kd.fresh' (Kd.R_lt (rr_ HO359)) k_ hk_.2.1), (Kd.fresh' (Kd.R_lt (rr_ HO362)) k_ hk_.2.1), (Kd.fresh' (Kd.R_lt (rr_ HO366)) k_ hk_.2.1), (Kd.fresh' (Kd.R_lt (rr_ HO369)) k_ hk_.2.1), (Kd.freshB (g := gb353) (o := .cells #[.slice A0_0 l0_0.length c0_0, .slice A0_1 l0_1.length c0_1] 25 (0, 0)) (kk_ BK353) k_ hk_.2.1)⟩)) (below_size (bs_ HB GE353.out))); have n6_ := mk_ (blk_below (kk_ BK353) hb); have n7_ := mk_ (below_step (bs_ HB GE353.out) hb); clear HO359 HO362 HO366 HO369 BK353 HB; revert n0_ n1_ n2_ n3_ n4_ n5_ n6_ n7_; intro HO359 HO362 HO366 HO369 HO373 HO376 BK353 HB; (try clear hb); (try clear hb2); (try clear hk); (try clear hi); (try clear ho0); (try clear ho1)) | ((with_reducible refine gate_dst (N := 20) rfl ?_); (try (refine gate_guard (by rfl) ?_; dsimp only)); refine box_event ?hg (N := 20) ?hd (cs := #[.slice none 0 0, .slice none 0 0]) (t := 25) ?hr ?_; (case hd => rfl); (case hg => rfl); (case hr => first | (go_simp; done) | (go_simp; rfl)); intro gb378 hg w43 hbox hb; have n0_ := mk_ (Kd.R_below (rr_ HO359) hb); have n1_ := mk_ (Kd.R_below (rr_ HO362) hb); have n2_ := mk_ (Kd.R_below (rr_ HO366) hb); have n3_ := mk_ (Kd.R_below (rr_ HO369) hb); have n4_ := mk_ (Kd.R_below (rr_ HO373) hb); have n5_ := mk_ (Kd.N_below (Kd.N_elderB (nn_ HO376) gb378 (Nat.le_of_eq hg.symm)) hb); have n6_ := mk_ (blk_below (kk_ BK353) hb); have n7_ := mk_ (below_step (bs_ HB GE353.out) hb); have n8_ := mk_ (hbox); have n9_ := mk_ (bz_ hg (bs_ HB GE353.out)); have n10_ := mk_ (bz_ hg (bs_ HB GE353.out)); have n11_ := mk_ (bl_ hg (kk_ BK353)); have n12_ := mk_ (bg_ hg (kk_ BK353)); clear HO359 HO362 HO366 HO369 HO373 HO376 BK353 HB; revert n0_ n1_ n2_ n3_ n4_ n5_ n6_ n7_ n8_ n9_ n10_ n11_ n12_; intro HO359 HO362 HO366 HO369 HO373 HO376 BK353 HB BK378 GW378 GE378 NB353_378 NB378_353; clear hb hbox hg; obtain ⟨Ao44, co44, eo44⟩ := Kd.R_slice HO373.out; subst eo44; have hnb45 := NB378_353.out; have hnc45 := NB353_378.out; have hcz46_0 := bc0_ BK378.out; have hcz46_1 := bc1_ BK378.out; have hfz46_0 := blk_frozen BK378.out 0; have hfz46_1 := blk_frozen BK378.out 1; obtain ⟨Ao47, co47, eo47⟩ := Kd.N_slice HO376.out; subst eo47) | ((with_reducible refine gate_store (t := 25) (p := 20) rfl ?_); refine store_event (t := 25) (p := 20) (v := ?vo_w48) (w1 := ((w43.setCell ⟨gb378, 0, none⟩ (.slice Ao44 t371.length co44)).setCell ⟨gb378, 1, none⟩ (.slice Ao47 t374.length co47))) ?hg ?ho ?hn ?hr ?_; (case ho => rfl); (case hg => rfl); (case hn => rfl); (case hr => first | (go_simp; done) | (go_simp; rfl)); intro w48 hw; have n0_ : Aside0 (Kd.R k51 51 w48 w.heap.size (fun k_ => some k_ ≠ (v365 : Value).ownBlock) v358 t357) := ⟨(by rw [hw]; exact (by (with_reducible repeat (first | apply Kd.R_alloc | apply Kd.R_drewN | apply Kd.R_drew)); exact Kd.R_mono (Kd.R_far (p := ⟨gb378, 1, none⟩) (Kd.R_far (p := ⟨gb378, 0, none⟩) (Kd.R_types HO359.out BK378.out (by decide)) (fun _ hk => hk.2) (.slice Ao44 t371.length co44)) (fun _ hk => hk.2) (.slice Ao47 t374.length co47)) (fun _ hk => hk.1.2)))⟩; have n1_ : Aside0 (Kd.R (Kd.int .i64) 3 w48 w.heap.size (fun k_ => some k_ ≠ (v368 : Value).ownBlock) v361 t360) := ⟨(by rw [hw]; exact (by (with_reducible repeat (first | apply Kd.R_alloc | apply Kd.R_drewN | apply Kd.R_drew)); exact Kd.R_mono (Kd.R_far (p := ⟨gb378, 1, none⟩) (Kd.R_far (p := ⟨gb378, 0, none⟩) (Kd.R_types HO362.out BK378.out (by decide)) (fun _ hk => hk.2) (.slice Ao44 t371.length co44)) (fun _ hk => hk.2) (.slice Ao47 t374.length co47)) (fun _ hk => hk.1.2)))⟩; have n2_ : Aside0 (Kd.R k51 51 w48 w.heap.size (fun k_ => some k_ ≠ (v358 : Value).ownBlock) v365 t364) := ⟨(by rw [hw]; exact (by (with_reducible repeat (first | apply Kd.R_alloc | apply Kd.R_drewN | apply Kd.R_drew)); exact Kd.R_mono (Kd.R_far (p := ⟨gb378, 1, none⟩) (Kd.R_far (p := ⟨gb378, 0, none⟩) (Kd.R_types HO366.out BK378.out (by decide)) (fun _ hk => hk.2) (.slice Ao44 t371.length co44)) (fun _ hk => hk.2) (.slice Ao47 t374.length co47)) (fun _ hk => hk.1.2)))⟩; have n3_ : Aside0 (Kd.R (Kd.int .i64) 3 w48 w.heap.size (fun k_ => some k_ ≠ (v361 : Value).ownBlock) v368 t367) := ⟨(by rw [hw]; exact (by (with_reducible repeat (first | apply Kd.R_alloc | apply Kd.R_drewN | apply Kd.R_drew)); exact Kd.R_mono (Kd.R_far (p := ⟨gb378, 1, none⟩) (Kd.R_far (p := ⟨gb378, 0, none⟩) (Kd.R_types HO369.out BK378.out (by decide)) (fun _ hk => hk.2) (.slice Ao44 t371.length co44)) (fun _ hk => hk.2) (.slice Ao47 t374.length co47)) (fun _ hk => hk.1.2)))⟩; have n4_ : Aside0 (Kd.R k84 84 w48 w.heap.size (fun _ => True) (.slice Ao44 t371.length co44) t371) := ⟨(by rw [hw]; exact (by (with_reducible repeat (first | apply Kd.R_alloc | apply Kd.R_drewN | apply Kd.R_drew)); exact Kd.R_mono (Kd.R_far (p := ⟨gb378, 1, none⟩) (Kd.R_far (p := ⟨gb378, 0, none⟩) (Kd.R_types HO373.out BK378.out (by decide)) (fun _ hk => hk.2) (.slice Ao44 t371.length co44)) (fun _ hk => hk.2) (.slice Ao47 t374.length co47)) (fun _ hk => trivial)))⟩; have n5_ : Aside0 (Kd.N k46 46 w48 w.heap.size (fun k_ => some k_ ≠ (v358 : Value).ownBlock ∧ some k_ ≠ (v361 : Value).ownBlock ∧ some k_ ≠ (v365 : Value).ownBlock ∧ some k_ ≠ (v368 : Value).ownBlock ∧ some k_ ≠ (.slice Ao44 t371.length co44 : Value).ownBlock ∧ k_ ≠ gb353 ∧ k_ ≠ gb378) (.slice Ao47 t374.length co47) t374) := ⟨(by rw [hw]; exact (by (with_reducible repeat (first | apply Kd.N_alloc | apply Kd.N_drewN | apply Kd.N_drew)); exact Kd.N_mono (Kd.N_far (p := ⟨gb378, 1, none⟩) (Kd.N_far (p := ⟨gb378, 0, none⟩) (Kd.N_mono HO376.out (fun k_ hk => (⟨hk, hk.2⟩ : _ ∧ k_ ≠ gb378))) (fun _ hk => hk.2) (.slice Ao44 t371.length co44)) (fun _ hk => hk.2) (.slice Ao47 t374.length co47)) wm_))⟩; have n6_ : Aside0 (w48.heap[gb353]? = some (.cells #[.slice A0_0 l0_0.length c0_0, .slice A0_1 l0_1.length c0_1] 25 (0, 0))) := ⟨(by rw [hw]; exact (by (with_reducible repeat (first | refine blk_drewN ?_ _ | refine blk_drew ?_ | refine blk_alloc ?_ _)); refine blk_far ?_ NB353_378.out _; (with_reducible repeat (first | refine blk_drewN ?_ _ | refine blk_drew ?_ | refine blk_alloc ?_ _)); refine blk_far ?_ NB353_378.out _; (with_reducible repeat (first | refine blk_drewN ?_ _ | refine blk_drew ?_ | refine blk_alloc ?_ _)); exact BK353.out))⟩; have n7_ : Aside0 (w48.heap[gb378]? = some (.cells #[.slice Ao44 t371.length co44, .slice Ao47 t374.length co47] 25 (0, 0))) := ⟨(by rw [hw]; exact (by (with_reducible repeat (first | refine blk_drewN ?_ _ | refine blk_drew ?_ | refine blk_alloc ?_ _)); refine blk_put (cs := #[.slice Ao44 t371.length co44, .slice none 0 0]) ?_ 1 _ rfl; (with_reducible repeat (first | refine blk_drewN ?_ _ | refine blk_drew ?_ | refine blk_alloc ?_ _)); refine blk_put (cs := #[.slice none 0 0, .slice none 0 0]) ?_ 0 _ rfl; (with_reducible repeat (first | refine blk_drewN ?_ _ | refine blk_drew ?_ | refine blk_alloc ?_ _)); exact BK378.out))⟩; have n8_ : Aside0 (Below w.heap.size w w48) := ⟨(by rw [hw]; exact (bs2_ HB GE353 GE378))⟩; clear hw; clear HO359 HO362 HO366 HO369 HO373 HO376 BK353 BK378 HB; revert n0_ n1_ n2_ n3_ n4_ n5_ n6_ n7_ n8_; intro HO359 HO362 HO366 HO369 HO373 HO376 BK353 BK378 HB; have hcz49_0 := bc0_ BK353.out; have hcz49_1 := bc1_ BK353.out; have hfz49_0 := blk_frozen BK353.out 0; have hfz49_1 := blk_frozen BK353.out 1) | ((with_reducible refine gate_callee (f := 16) rfl ?_); refine gl_ (some 74) Try.func16 #[.agg #[.slice A0_0 l0_0.length c0_0, .slice A0_1 l0_1.length c0_1], .slice A4 l4.length c4, .slice A5 l5.length c5] ?_; (with_reducible refine (cohousingref26_Next.calls kj7 (fun k_ => k_ < w.heap.size) _ _ l0_0 (fun k_ => k_ < w.heap.size) _ _ l0_1 _ _ l4 _ _ l5 t379 t382 t385 _ ?side1 ?side2 ?side3 ?side4 ?side5 ?side6 A28.out).mono ?_); (case side1 => exact Kd.V_mk HC0_0.out (Kd.F_below (Kd.C_F k84_heap HR0_0.out) (bs2_ HB GE353 GE378))); (case side2 => exact Kd.V_mk HC0_1.out (Kd.F_below (Kd.C_F k46_heap HR0_1.out) (bs2_ HB GE353 GE378))); (case side3 => exact cc_ ((Kd.C_below HR4.out HB.out))); (case side4 => exact HC4.out); (case side5 => exact cc_ ((Kd.C_below HR5.out HB.out))); (case side6 => exact HC5.out); rintro e w50 ⟨v380, v383, rfl, ho0, ho1, hb⟩; refine ⟨_, rfl, ?_⟩; have n0_ := mk_ (Kd.R_below (rr_ HO359) hb); have n1_ := mk_ (Kd.R_below (rr_ HO362) hb); have n2_ := mk_ (Kd.R_below (rr_ HO366) hb); have n3_ := mk_ (Kd.R_below (rr_ HO369) hb); have n4_ := mk_ (Kd.R_below (rr_ HO373) hb); have n5_ := mk_ (Kd.N_elder' (nn_ HO376) (Kd.N_base ho1) hb); have n6_ := mk_ (Kd.V_lower (Kd.V_mono (ok' := fun k_ => some k_ ≠ (v383 : Value).ownBlock ∧ some k_ ≠ (v358 : Value).ownBlock ∧ some k_ ≠ (v361 : Value).ownBlock ∧ some k_ ≠ (v365 : Value).ownBlock ∧ some k_ ≠ (v368 : Value).ownBlock ∧ some k_ ≠ (.slice Ao44 t371.length co44 : Value).ownBlock ∧ some k_ ≠ (.slice Ao47 t374.length co47 : Value).ownBlock ∧ k_ ≠ gb353 ∧ k_ ≠ gb378) ho0 (fun k_ hk_ => ⟨hk_.2, Or.elim hk_.1 (fun hs_ => Or.elim hs_ (fun hs_ => fun e_ => Nat.not_le.2 hs_ (Kd.R_base HO359.out k_ e_.symm)) (fun hs_ => fun e_ => Nat.not_le.2 hs_ (Kd.R_base HO359.out k_ e_.symm))) (fun hn_ => (Kd.fresh' (Kd.R_lt (rr_ HO359)) k_ hn_)), Or.elim hk_.1 (fun hs_ => Or.elim hs_ (fun hs_ => fun e_ => Nat.not_le.2 hs_ (Kd.R_base HO362.out k_ e_.symm)) (fun hs_ => fun e_ => Nat.not_le.2 hs_ (Kd.R_base HO362.out k_ e_.symm))) (fun hn_ => (Kd.fresh' (Kd.R_lt (rr_ HO362)) k_ hn_)), Or.elim hk_.1 (fun hs_ => Or.elim hs_ (fun hs_ => fun e_ => Nat.not_le.2 hs_ (Kd.R_base HO366.out k_ e_.symm)) (fun hs_ => fun e_ => Nat.not_le.2 hs_ (Kd.R_base HO366.out k_ e_.symm))) (fun hn_ => (Kd.fresh' (Kd.R_lt (rr_ HO366)) k_ hn_)), Or.elim hk_.1 (fun hs_ => Or.elim hs_ (fun hs_ => fun e_ => Nat.not_le.2 hs_ (Kd.R_base HO369.out k_ e_.symm)) (fun hs_ => fun e_ => Nat.not_le.2 hs_ (Kd.R_base HO369.out k_ e_.symm))) (fun hn_ => (Kd.fresh' (Kd.R_lt (rr_ HO369)) k_ hn_)), Or.elim hk_.1 (fun hs_ => Or.elim hs_ (fun hs_ => fun e_ => Nat.not_le.2 hs_ (Kd.R_base HO373.out k_ e_.symm)) (fun hs_ => fun e_ => Nat.not_le.2 hs_ (Kd.R_base HO373.out k_ e_.symm))) (fun hn_ => (Kd.fresh' (Kd.R_lt (rr_ HO373)) k_ hn_)), Or.elim hk_.1 (fun hs_ => Or.elim hs_ (fun hs_ => fun e_ => Nat.not_le.2 hs_ (Kd.N_base HO376.out k_ e_.symm)) (fun hs_ => fun e_ => Nat.not_le.2 hs_ (Kd.N_base HO376.out k_ e_.symm))) (fun hn_ => (Kd.fresh' (Kd.N_lt (nn_ HO376)) k_ hn_)), Or.elim hk_.1 (fun hs_ => Or.elim hs_ (fun hs_ => fun e_ => Nat.not_le.2 hs_ (by rw [e_]; exact GW353.out)) (fun hs_ => fun e_ => Nat.not_le.2 hs_ (by rw [e_]; exact GW353.out))) (fun hn_ => (Kd.freshB (g := gb353) (o := .cells #[.slice A0_0 l0_0.length c0_0, .slice A0_1 l0_1.length c0_1] 25 (0, 0)) (kk_ BK353) k_ hn_)), Or.elim hk_.1 (fun hs_ => Or.elim hs_ (fun hs_ => fun e_ => Nat.not_le.2 hs_ (by rw [e_]; exact GW378.out)) (fun hs_ => fun e_ => Nat.not_le.2 hs_ (by rw [e_]; exact GW378.out))) (fun hn_ => (Kd.freshB (g := gb378) (o := .cells #[.slice Ao44 t371.length co44, .slice Ao47 t374.length co47] 25 (0, 0)) (kk_ BK378) k_ hn_))⟩)) (below_size (bs2_ HB GE353 GE378))); have n7_ := mk_ (Kd.N_lower (Kd.N_mono (ok' := fun k_ => some k_ ≠ (v358 : Value).ownBlock ∧ some k_ ≠ (v361 : Value).ownBlock ∧ some k_ ≠ (v365 : Value).ownBlock ∧ some k_ ≠ (v368 : Value).ownBlock ∧ some k_ ≠ (.slice Ao44 t371.length co44 : Value).ownBlock ∧ some k_ ≠ (.slice Ao47 t374.length co47 : Value).ownBlock ∧ k_ ≠ gb353 ∧ k_ ≠ gb378) ho1 (fun k_ hk_ => ⟨Or.elim hk_ (fun hs_ => Or.elim hs_ (fun hs_ => fun e_ => Nat.not_le.2 hs_ (Kd.R_base HO359.out k_ e_.symm)) (fun hs_ => fun e_ => Nat.not_le.2 hs_ (Kd.R_base HO359.out k_ e_.symm))) (fun hn_ => (Kd.fresh' (Kd.R_lt (rr_ HO359)) k_ hn_)), Or.elim hk_ (fun hs_ => Or.elim hs_ (fun hs_ => fun e_ => Nat.not_le.2 hs_ (Kd.R_base HO362.out k_ e_.symm)) (fun hs_ => fun e_ => Nat.not_le.2 hs_ (Kd.R_base HO362.out k_ e_.symm))) (fun hn_ => (Kd.fresh' (Kd.R_lt (rr_ HO362)) k_ hn_)), Or.elim hk_ (fun hs_ => Or.elim hs_ (fun hs_ => fun e_ => Nat.not_le.2 hs_ (Kd.R_base HO366.out k_ e_.symm)) (fun hs_ => fun e_ => Nat.not_le.2 hs_ (Kd.R_base HO366.out k_ e_.symm))) (fun hn_ => (Kd.fresh' (Kd.R_lt (rr_ HO366)) k_ hn_)), Or.elim hk_ (fun hs_ => Or.elim hs_ (fun hs_ => fun e_ => Nat.not_le.2 hs_ (Kd.R_base HO369.out k_ e_.symm)) (fun hs_ => fun e_ => Nat.not_le.2 hs_ (Kd.R_base HO369.out k_ e_.symm))) (fun hn_ => (Kd.fresh' (Kd.R_lt (rr_ HO369)) k_ hn_)), Or.elim hk_ (fun hs_ => Or.elim hs_ (fun hs_ => fun e_ => Nat.not_le.2 hs_ (Kd.R_base HO373.out k_ e_.symm)) (fun hs_ => fun e_ => Nat.not_le.2 hs_ (Kd.R_base HO373.out k_ e_.symm))) (fun hn_ => (Kd.fresh' (Kd.R_lt (rr_ HO373)) k_ hn_)), Or.elim hk_ (fun hs_ => Or.elim hs_ (fun hs_ => fun e_ => Nat.not_le.2 hs_ (Kd.N_base HO376.out k_ e_.symm)) (fun hs_ => fun e_ => Nat.not_le.2 hs_ (Kd.N_base HO376.out k_ e_.symm))) (fun hn_ => (Kd.fresh' (Kd.N_lt (nn_ HO376)) k_ hn_)), Or.elim hk_ (fun hs_ => Or.elim hs_ (fun hs_ => fun e_ => Nat.not_le.2 hs_ (by rw [e_]; exact GW353.out)) (fun hs_ => fun e_ => Nat.not_le.2 hs_ (by rw [e_]; exact GW353.out))) (fun hn_ => (Kd.freshB (g := gb353) (o := .cells #[.slice A0_0 l0_0.length c0_0, .slice A0_1 l0_1.length c0_1] 25 (0, 0)) (kk_ BK353) k_ hn_)), Or.elim hk_ (fun hs_ => Or.elim hs_ (fun hs_ => fun e_ => Nat.not_le.2 hs_ (by rw [e_]; exact GW378.out)) (fun hs_ => fun e_ => Nat.not_le.2 hs_ (by rw [e_]; exact GW378.out))) (fun hn_ => (Kd.freshB (g := gb378) (o := .cells #[.slice Ao44 t371.length co44, .slice Ao47 t374.length co47] 25 (0, 0)) (kk_ BK378) k_ hn_))⟩)) (below_size (bs2_ HB GE353 GE378))); have n8_ := mk_ (blk_below (kk_ BK353) hb); have n9_ := mk_ (blk_below (kk_ BK378) hb); have n10_ := mk_ (below_step (bs2_ HB GE353 GE378) hb); clear HO359 HO362 HO366 HO369 HO373 HO376 BK353 BK378 HB; revert n0_ n1_ n2_ n3_ n4_ n5_ n6_ n7_ n8_ n9_ n10_; intro HO359 HO362 HO366 HO369 HO373 HO376 HO381 HO384 BK353 BK378 HB; (try clear hb); (try clear hb2); (try clear hk); (try clear hi); (try clear ho0); (try clear ho1)) | ((with_reducible refine gate_dst (N := 22) rfl ?_); (try (refine gate_guard (by rfl) ?_; dsimp only)); refine box_event ?hg (N := 22) ?hd (cs := #[.slice none 0 0, .slice none 0 0]) (t := 25) ?hr ?_; (case hd => rfl); (case hg => rfl); (case hr => first | (go_simp; done) | (go_simp; rfl)); intro gb386 hg w51 hbox hb; have n0_ := mk_ (Kd.R_below (rr_ HO359) hb); have n1_ := mk_ (Kd.R_below (rr_ HO362) hb); have n2_ := mk_ (Kd.R_below (rr_ HO366) hb); have n3_ := mk_ (Kd.R_below (rr_ HO369) hb); have n4_ := mk_ (Kd.R_below (rr_ HO373) hb); have n5_ := mk_ (Kd.N_below (Kd.N_elderB (nn_ HO376) gb386 (Nat.le_of_eq hg.symm)) hb); have n6_ := mk_ (Kd.V_below (Kd.V_elderB (vv_ HO381) gb386 (Nat.le_of_eq hg.symm)) hb); have n7_ := mk_ (Kd.N_below (Kd.N_elderB (nn_ HO384) gb386 (Nat.le_of_eq hg.symm)) hb); have n8_ := mk_ (blk_below (kk_ BK353) hb); have n9_ := mk_ (blk_below (kk_ BK378) hb); have n10_ := mk_ (below_step (bs2_ HB GE353 GE378) hb); have n11_ := mk_ (hbox); have n12_ := mk_ (bz_ hg (bs2_ HB GE353 GE378)); have n13_ := mk_ (bz_ hg (bs2_ HB GE353 GE378)); have n14_ := mk_ (bl_ hg (kk_ BK353)); have n15_ := mk_ (bg_ hg (kk_ BK353)); have n16_ := mk_ (bl_ hg (kk_ BK378)); have n17_ := mk_ (bg_ hg (kk_ BK378)); clear HO359 HO362 HO366 HO369 HO373 HO376 HO381 HO384 BK353 BK378 HB; revert n0_ n1_ n2_ n3_ n4_ n5_ n6_ n7_ n8_ n9_ n10_ n11_ n12_ n13_ n14_ n15_ n16_ n17_; intro HO359 HO362 HO366 HO369 HO373 HO376 HO381 HO384 BK353 BK378 HB BK386 GW386 GE386 NB353_386 NB386_353 NB378_386 NB386_378; clear hb hbox hg; obtain ⟨Ao52, co52, eo52⟩ := Kd.V_slice HO381.out; subst eo52; have hnb53 := NB386_353.out; have hnc53 := NB353_386.out; have hnb54 := NB386_378.out; have hnc54 := NB378_386.out; have hcz55_0 := bc0_ BK386.out; have hcz55_1 := bc1_ BK386.out; have hfz55_0 := blk_frozen BK386.out 0; have hfz55_1 := blk_frozen BK386.out 1; obtain ⟨Ao56, co56, eo56⟩ := Kd.N_slice HO384.out; subst eo56; obtain ⟨Ao57, co57, eo57⟩ := Kd.R_slice HO359.out; subst eo57; obtain ⟨Ao58, co58, eo58⟩ := Kd.R_slice HO366.out; subst eo58) | (go_at_call 17; (with_reducible refine (cohousingref26_SameMoves.calls kj7 _ _ t357 _ _ t364 true _ ?side1 ?side2 ?side3 ?side4 A30.out).mono ?_); (case side1 => refine (Kd.R_reads' (e := 51) (base := w.heap.size) (ok := fun k_ => some k_ ≠ (.slice Ao58 t364.length co58 : Value).ownBlock) (n := t357.length) (c := co57) ?_).2.2; exact (by (with_reducible repeat (first | apply Kd.R_alloc | apply Kd.R_drewN | apply Kd.R_drew)); exact (Kd.R_mono (Kd.R_far (p := ⟨gb386, 1, none⟩) (Kd.R_far (p := ⟨gb386, 0, none⟩) (Kd.R_types HO359.out BK386.out (by decide)) (fun _ hk => hk.2) (.slice Ao52 t379.length co52)) (fun _ hk => hk.2) (.slice Ao56 t382.length co56)) (fun _ h_ => h_.1)))); (case side2 => exact (Kd.R_reads' HO359.out).2.1); (case side3 => refine (Kd.R_reads' (e := 51) (base := w.heap.size) (ok := fun k_ => some k_ ≠ (.slice Ao57 t357.length co57 : Value).ownBlock) (n := t364.length) (c := co58) ?_).2.2; exact (by (with_reducible repeat (first | apply Kd.R_alloc | apply Kd.R_drewN | apply Kd.R_drew)); exact (Kd.R_mono (Kd.R_far (p := ⟨gb386, 1, none⟩) (Kd.R_far (p := ⟨gb386, 0, none⟩) (Kd.R_types HO366.out BK386.out (by decide)) (fun _ hk => hk.2) (.slice Ao52 t379.length co52)) (fun _ hk => hk.2) (.slice Ao56 t382.length co56)) (fun _ h_ => h_.1)))); (case side4 => exact (Kd.R_reads' HO366.out).2.1); rintro e w' ⟨rfl, ⟨nd, rfl⟩⟩; obtain ⟨Ao59, co59, eo59⟩ := Kd.R_slice HO362.out; subst eo59; obtain ⟨Ao60, co60, eo60⟩ := Kd.R_slice HO369.out; subst eo60) | (go_at_call 18; (with_reducible refine (cohousingref23_SameInts.calls kj7 _ _ t360 _ _ t367 true _ ?side1 ?side2 ?side3 ?side4 A32.out).mono ?_); (case side1 => refine (Kd.R_reads' (e := 3) (base := w.heap.size) (ok := fun k_ => some k_ ≠ (.slice Ao60 t367.length co60 : Value).ownBlock) (n := t360.length) (c := co59) ?_).2.2; exact (by (with_reducible repeat (first | apply Kd.R_alloc | apply Kd.R_drewN | apply Kd.R_drew)); exact (Kd.R_mono (Kd.R_far (p := ⟨gb386, 1, none⟩) (Kd.R_far (p := ⟨gb386, 0, none⟩) (Kd.R_types HO362.out BK386.out (by decide)) (fun _ hk => hk.2) (.slice Ao52 t379.length co52)) (fun _ hk => hk.2) (.slice Ao56 t382.length co56)) (fun _ h_ => h_.1)))); (case side2 => exact (Kd.R_reads' HO362.out).2.1); (case side3 => refine (Kd.R_reads' (e := 3) (base := w.heap.size) (ok := fun k_ => some k_ ≠ (.slice Ao59 t360.length co59 : Value).ownBlock) (n := t367.length) (c := co60) ?_).2.2; exact (by (with_reducible repeat (first | apply Kd.R_alloc | apply Kd.R_drewN | apply Kd.R_drew)); exact (Kd.R_mono (Kd.R_far (p := ⟨gb386, 1, none⟩) (Kd.R_far (p := ⟨gb386, 0, none⟩) (Kd.R_types HO369.out BK386.out (by decide)) (fun _ hk => hk.2) (.slice Ao52 t379.length co52)) (fun _ hk => hk.2) (.slice Ao56 t382.length co56)) (fun _ h_ => h_.1)))); (case side4 => exact (Kd.R_reads' HO369.out).2.1); rintro e w' ⟨rfl, ⟨nd, rfl⟩⟩; have hcz61_0 := bc0_ BK378.out; have hcz61_1 := bc1_ BK378.out; have hfz61_0 := blk_frozen BK378.out 0; have hfz61_1 := blk_frozen BK378.out 1) | (go_at_call 19; (with_reducible refine (cohousingref23_Same.calls kj7 _ _ t371 _ _ t374 _ _ t379 _ _ t382 true _ ?side1 ?side2 ?side3 ?side4 ?side5 ?side6 ?side7 ?side8 A35.out).mono ?_); (case side1 => refine (Kd.R_reads' (e := 84) (base := w.heap.size) (ok := fun k_ => True) (n := t371.length) (c := co44) ?_).2.2; exact (by (with_reducible repeat (first | apply Kd.R_alloc | apply Kd.R_drewN | apply Kd.R_drew)); exact (Kd.R_mono (Kd.R_far (p := ⟨gb386, 1, none⟩) (Kd.R_far (p := ⟨gb386, 0, none⟩) (Kd.R_types HO373.out BK386.out (by decide)) (fun _ hk => hk.2) (.slice Ao52 t379.length co52)) (fun _ hk => hk.2) (.slice Ao56 t382.length co56)) (fun _ h_ => h_.1)))); (case side2 => exact (Kd.R_reads' HO373.out).2.1); (case side3 => refine (Kd.N_reads' (e := 46) (base := w.heap.size) (ok := fun k_ => (((some k_ ≠ (.slice Ao57 t357.length co57 : Value).ownBlock ∧ (some k_ ≠ (.slice Ao59 t360.length co59 : Value).ownBlock ∧ (some k_ ≠ (.slice Ao58 t364.length co58 : Value).ownBlock ∧ (some k_ ≠ (.slice Ao60 t367.length co60 : Value).ownBlock ∧ (some k_ ≠ (.slice Ao44 t371.length co44 : Value).ownBlock ∧ (k_ ≠ gb353 ∧ k_ ≠ gb378)))))) ∧ some k_ ≠ (.slice Ao56 t382.length co56 : Value).ownBlock) ∧ k_ ≠ gb386)) (n := t374.length) (c := co47) ?_).2.2; exact (by (with_reducible repeat (first | apply Kd.N_alloc | apply Kd.N_drewN | apply Kd.N_drew)); exact (Kd.N_mono (Kd.N_far (p := ⟨gb386, 1, none⟩) (Kd.N_far (p := ⟨gb386, 0, none⟩) (Kd.N_mono HO376.out (fun k_ hk => (⟨hk, hk.2⟩ : _ ∧ k_ ≠ gb386))) (fun _ hk => hk.2) (.slice Ao52 t379.length co52)) (fun _ hk => hk.2) (.slice Ao56 t382.length co56)) (fun _ h_ => h_.1)))); (case side4 => exact (Kd.N_reads' HO376.out).2.1); (case side5 => refine (Kd.V_reads' (e := 84) (base := w.heap.size) (ok := fun k_ => ((some k_ ≠ (.slice Ao56 t382.length co56 : Value).ownBlock ∧ (some k_ ≠ (.slice Ao57 t357.length co57 : Value).ownBlock ∧ (some k_ ≠ (.slice Ao59 t360.length co59 : Value).ownBlock ∧ (some k_ ≠ (.slice Ao58 t364.length co58 : Value).ownBlock ∧ (some k_ ≠ (.slice Ao60 t367.length co60 : Value).ownBlock ∧ (some k_ ≠ (.slice Ao44 t371.length co44 : Value).ownBlock ∧ (some k_ ≠ (.slice Ao47 t374.length co47 : Value).ownBlock ∧ (k_ ≠ gb353 ∧ k_ ≠ gb378)))))))) ∧ k_ ≠ gb386)) (n := t379.length) (c := co52) ?_).2.2; exact (by (with_reducible repeat (first | apply Kd.V_alloc | apply Kd.V_drewN | apply Kd.V_drew)); exact (Kd.V_mono (Kd.V_far (p := ⟨gb386, 1, none⟩) (Kd.V_far (p := ⟨gb386, 0, none⟩) (Kd.V_mono HO381.out (fun k_ hk => (⟨hk, hk.2⟩ : _ ∧ k_ ≠ gb386))) (fun _ hk => hk.2) (.slice Ao52 t379.length co52)) (fun _ hk => hk.2) (.slice Ao56 t382.length co56)) (fun _ h_ => h_.1)))); (case side6 => exact (Kd.V_reads' HO381.out).2.1); (case side7 => refine (Kd.N_reads' (e := 46) (base := w.heap.size) (ok := fun k_ => ((some k_ ≠ (.slice Ao57 t357.length co57 : Value).ownBlock ∧ (some k_ ≠ (.slice Ao59 t360.length co59 : Value).ownBlock ∧ (some k_ ≠ (.slice Ao58 t364.length co58 : Value).ownBlock ∧ (some k_ ≠ (.slice Ao60 t367.length co60 : Value).ownBlock ∧ (some k_ ≠ (.slice Ao44 t371.length co44 : Value).ownBlock ∧ (some k_ ≠ (.slice Ao47 t374.length co47 : Value).ownBlock ∧ (k_ ≠ gb353 ∧ k_ ≠ gb378))))))) ∧ k_ ≠ gb386)) (n := t382.length) (c := co56) ?_).2.2; exact (by (with_reducible repeat (first | apply Kd.N_alloc | apply Kd.N_drewN | apply Kd.N_drew)); exact (Kd.N_mono (Kd.N_far (p := ⟨gb386, 1, none⟩) (Kd.N_far (p := ⟨gb386, 0, none⟩) (Kd.N_mono HO384.out (fun k_ hk => (⟨hk, hk.2⟩ : _ ∧ k_ ≠ gb386))) (fun _ hk => hk.2) (.slice Ao52 t379.length co52)) (fun _ hk => hk.2) (.slice Ao56 t382.length co56)) (fun _ h_ => h_.1)))); (case side8 => exact (Kd.N_reads' HO384.out).2.1); rintro e w62 ⟨rfl, hb⟩; have n0_ := mk_ (Kd.R_below (by (with_reducible repeat (first | apply Kd.R_alloc | apply Kd.R_drewN | apply Kd.R_drew)); exact (Kd.R_mono (Kd.R_far (p := ⟨gb386, 1, none⟩) (Kd.R_far (p := ⟨gb386, 0, none⟩) (Kd.R_types HO359.out BK386.out (by decide)) (fun _ hk => hk.2) (.slice Ao52 t379.length co52)) (fun _ hk => hk.2) (.slice Ao56 t382.length co56)) (fun _ h_ => h_.1))) hb); have n1_ := mk_ (Kd.R_below (by (with_reducible repeat (first | apply Kd.R_alloc | apply Kd.R_drewN | apply Kd.R_drew)); exact (Kd.R_mono (Kd.R_far (p := ⟨gb386, 1, none⟩) (Kd.R_far (p := ⟨gb386, 0, none⟩) (Kd.R_types HO362.out BK386.out (by decide)) (fun _ hk => hk.2) (.slice Ao52 t379.length co52)) (fun _ hk => hk.2) (.slice Ao56 t382.length co56)) (fun _ h_ => h_.1))) hb); have n2_ := mk_ (Kd.R_below (by (with_reducible repeat (first | apply Kd.R_alloc | apply Kd.R_drewN | apply Kd.R_drew)); exact (Kd.R_mono (Kd.R_far (p := ⟨gb386, 1, none⟩) (Kd.R_far (p := ⟨gb386, 0, none⟩) (Kd.R_types HO366.out BK386.out (by decide)) (fun _ hk => hk.2) (.slice Ao52 t379.length co52)) (fun _ hk => hk.2) (.slice Ao56 t382.length co56)) (fun _ h_ => h_.1))) hb); have n3_ := mk_ (Kd.R_below (by (with_reducible repeat (first | apply Kd.R_alloc | apply Kd.R_drewN | apply Kd.R_drew)); exact (Kd.R_mono (Kd.R_far (p := ⟨gb386, 1, none⟩) (Kd.R_far (p := ⟨gb386, 0, none⟩) (Kd.R_types HO369.out BK386.out (by decide)) (fun _ hk => hk.2) (.slice Ao52 t379.length co52)) (fun _ hk => hk.2) (.slice Ao56 t382.length co56)) (fun _ h_ => h_.1))) hb); have n4_ := mk_ (Kd.R_below (by (with_reducible repeat (first | apply Kd.R_alloc | apply Kd.R_drewN | apply Kd.R_drew)); exact (Kd.R_mono (Kd.R_far (p := ⟨gb386, 1, none⟩) (Kd.R_far (p := ⟨gb386, 0, none⟩) (Kd.R_types HO373.out BK386.out (by decide)) (fun _ hk => hk.2) (.slice Ao52 t379.length co52)) (fun _ hk => hk.2) (.slice Ao56 t382.length co56)) (fun _ h_ => h_.1))) hb); have n5_ := mk_ (Kd.N_below (by (with_reducible repeat (first | apply Kd.N_alloc | apply Kd.N_drewN | apply Kd.N_drew)); exact (Kd.N_mono (Kd.N_far (p := ⟨gb386, 1, none⟩) (Kd.N_far (p := ⟨gb386, 0, none⟩) (Kd.N_mono HO376.out (fun k_ hk => (⟨hk, hk.2⟩ : _ ∧ k_ ≠ gb386))) (fun _ hk => hk.2) (.slice Ao52 t379.length co52)) (fun _ hk => hk.2) (.slice Ao56 t382.length co56)) (fun _ h_ => h_.1))) hb); have n6_ := mk_ (Kd.V_below (by (with_reducible repeat (first | apply Kd.V_alloc | apply Kd.V_drewN | apply Kd.V_drew)); exact (Kd.V_mono (Kd.V_far (p := ⟨gb386, 1, none⟩) (Kd.V_far (p := ⟨gb386, 0, none⟩) (Kd.V_mono HO381.out (fun k_ hk => (⟨hk, hk.2⟩ : _ ∧ k_ ≠ gb386))) (fun _ hk => hk.2) (.slice Ao52 t379.length co52)) (fun _ hk => hk.2) (.slice Ao56 t382.length co56)) (fun _ h_ => h_.1))) hb); have n7_ := mk_ (Kd.N_below (by (with_reducible repeat (first | apply Kd.N_alloc | apply Kd.N_drewN | apply Kd.N_drew)); exact (Kd.N_mono (Kd.N_far (p := ⟨gb386, 1, none⟩) (Kd.N_far (p := ⟨gb386, 0, none⟩) (Kd.N_mono HO384.out (fun k_ hk => (⟨hk, hk.2⟩ : _ ∧ k_ ≠ gb386))) (fun _ hk => hk.2) (.slice Ao52 t379.length co52)) (fun _ hk => hk.2) (.slice Ao56 t382.length co56)) (fun _ h_ => h_.1))) hb); have n8_ := mk_ (blk_below (g := gb353) (o := .cells #[.slice A0_0 l0_0.length c0_0, .slice A0_1 l0_1.length c0_1] 25 (0, 0)) (by (with_reducible repeat (first | refine blk_drewN ?_ _ | refine blk_drew ?_ | refine blk_alloc ?_ _)); refine blk_far ?_ NB353_386.out _; (with_reducible repeat (first | refine blk_drewN ?_ _ | refine blk_drew ?_ | refine blk_alloc ?_ _)); refine blk_far ?_ NB353_386.out _; (with_reducible repeat (first | refine blk_drewN ?_ _ | refine blk_drew ?_ | refine blk_alloc ?_ _)); exact BK353.out) hb); have n9_ := mk_ (blk_below (g := gb378) (o := .cells #[.slice Ao44 t371.length co44, .slice Ao47 t374.length co47] 25 (0, 0)) (by (with_reducible repeat (first | refine blk_drewN ?_ _ | refine blk_drew ?_ | refine blk_alloc ?_ _)); refine blk_far ?_ NB378_386.out _; (with_reducible repeat (first | refine blk_drewN ?_ _ | refine blk_drew ?_ | refine blk_alloc ?_ _)); refine blk_far ?_ NB378_386.out _; (with_reducible repeat (first | refine blk_drewN ?_ _ | refine blk_drew ?_ | refine blk_alloc ?_ _)); exact BK378.out) hb); have n10_ := mk_ (blk_below (g := gb386) (o := .cells #[.slice Ao52 t379.length co52, .slice Ao56 t382.length co56] 25 (0, 0)) (by (with_reducible repeat (first | refine blk_drewN ?_ _ | refine blk_drew ?_ | refine blk_alloc ?_ _)); refine blk_put (cs := #[.slice Ao52 t379.length co52, .slice none 0 0]) ?_ 1 _ rfl; (with_reducible repeat (first | refine blk_drewN ?_ _ | refine blk_drew ?_ | refine blk_alloc ?_ _)); refine blk_put (cs := #[.slice none 0 0, .slice none 0 0]) ?_ 0 _ rfl; (with_reducible repeat (first | refine blk_drewN ?_ _ | refine blk_drew ?_ | refine blk_alloc ?_ _)); exact BK386.out) hb); have n11_ := mk_ (below_step (bs3_ HB GE353 GE378 GE386) hb); clear HO359 HO362 HO366 HO369 HO373 HO376 HO381 HO384 BK353 BK378 BK386 HB; revert n0_ n1_ n2_ n3_ n4_ n5_ n6_ n7_ n8_ n9_ n10_ n11_; intro HO359 HO362 HO366 HO369 HO373 HO376 HO381 HO384 BK353 BK378 BK386 HB; (try clear hb); (try clear hb2); (try clear hk); (try clear hi)))
   go_ret
   exact ⟨ew_, bs3_ HB GE353 GE378 GE386⟩
end Go.Proofs.Ytocbiggglnpeoaa.M
end
section
namespace Go.Proofs.Ytocbiggglnpeoaa.M
open Go.RowKit Go.Proofs.YtocbiggglnpeoaaW.PrintWords Go.Proofs.YtocbiggglnpeoaaW.PrintLast Go.Proofs.YtocbiggglnpeoaaW.PrintMore Go.Proofs.YtocbiggglnpeoaaH
open Classical
theorem Told.here {rs : List YT} {due : Int} {r : GT} {n : Nat} {b : Bool} (h : Told rs due r n b) {m : Nat} (hm : m < r.f1.length) (hy : ∀ k, k < m → agB rs due (mv r.f1 k).f0 = true) (hno : agB rs due (mv r.f1 m).f0 = false) : b = true ∧ n = if r.f0 = true then m else 0 := by
 cases h with
 | all h => rw [h m hm] at hno; cases hno
 | chain n hn hc h' hno' =>
  refine ⟨rfl, ?_⟩
  rw [if_pos hc]
  rcases Nat.lt_trichotomy n m with e | e | e
  ·rw [hy n e] at hno'; cases hno'
  ·exact e
  ·rw [h' m e] at hno; cases hno
 | cycle n hn hc hno' => exact ⟨rfl, by rw [if_neg (by rw [hc]; decide)]⟩
theorem Told.none {rs : List YT} {due : Int} {r : GT} {n : Nat} {b : Bool} (h : Told rs due r n b) (hy : ∀ k, k < r.f1.length → agB rs due (mv r.f1 k).f0 = true) : b = false ∧ n = r.f1.length := by
 cases h with
 | all _ => exact ⟨rfl, rfl⟩
 | chain n hn _ _ hno => rw [hy n hn] at hno; cases hno
 | cycle n hn _ hno => rw [hy n hn] at hno; cases hno
theorem goR_next (rs : List YT) (due : Int) (l : List GT) (n : Nat) : goR rs due l (n + 1) = goR rs due l n ++ (rg l n).f1.take (nR rs due (rg l n)) := goM_succ _ _ _
theorem brR_next (rs : List YT) (due : Int) (l : List GT) (n : Nat) : brR rs due l (n + 1) = if bR rs due (rg l n) = true then brR rs due l n ++ [(n : Int)] else brR rs due l n := brM_succ _ _ _
theorem far_len {go r : List MT} (hg : go.length ≤ 20000) (hr : r.length ≤ 30) (m : Nat) : go.length + (r.take m).length < 5864062014805 :=
 Nat.lt_of_le_of_lt (Nat.add_le_add hg (Nat.le_trans (List.length_take_le' m r) hr)) (by decide)
theorem run_l1 {l : List GT} {rs : List YT} {due : Int} (hR : FewR l rs) (go : List MT) (br : List Int) (n : Nat) (tgt : List MT × List Int × Int) (hlt : n < l.length)
  (hrn : (rg l n).f1.length ≤ 30) (hgo : go.length ≤ 20000) (hbr : br.length ≤ 20)
  (ih : Ev (fun k => cohousingref26_Run.l0 k l due rs (go ++ (rg l n).f1.take (nR rs due (rg l n))) (if bR rs due (rg l n) = true then br ++ [(n : Int)] else br) ((n + 1 : Nat) : Int)) tgt) :
  ∀ m, m ≤ (rg l n).f1.length → ((∀ k, k < m → agB rs due (mv (rg l n).f1 k).f0 = true) → Ev (fun k => cohousingref26_Run.l1 k l due rs go br (n : Int) (rg l n).f1 (m : Int)) tgt) := by
 have hll := hR.len
 have hrl := hR.r
 have ht := told_ring rs due (rg l n)
 have hwn := wrap_nat (show n ≤ 140737488355328 by omega)
 have c1 : (n : Int) < (l.length : Int) := Int.ofNat_lt.2 hlt
 have c2 : (0 : Int) ≤ (n : Int) := Int.natCast_nonneg n
 refine loopUp (rg l n).f1.length _ ?_ ?_
 ·intro hy
  obtain ⟨e1, e2⟩ := ht.none hy
  have d1 : ¬ ((((rg l n).f1.length : Nat) : Int) < ((rg l n).f1.length : Int)) := Int.lt_irrefl _
  have d2 : (0 : Int) ≤ ((rg l n).f1.length : Int) := by omega
  have d4 : go.length + ((rg l n).f1.take (rg l n).f1.length).length < 5864062014805 := far_len hgo hrn (rg l n).f1.length
  have e1' : bR rs due (rg l n) = false := e1
  have e2' : nR rs due (rg l n) = (rg l n).f1.length := e2
  rw [e1', e2'] at ih
  simp only [Bool.false_eq_true, if_false] at ih
  refine Ev.step ?_
  simp only [cohousingref26_Run.l1, d1, if_false]
  refine Ev.step ?_
  simp only [cohousingref26_Run.j3, d1, d2, Int.le_refl, if_false, if_true, Int.toNat_natCast, Option.bind_some, d4, hwn]
  exact ih
 ·intro m hm ihm hy
  have d1 : (m : Int) < ((rg l n).f1.length : Int) := by omega
  have d2 : (0 : Int) ≤ (m : Int) := by omega
  refine Ev.step ?_
  simp only [cohousingref26_Run.l1, d1, d2, if_true]
  refine Ev.bnd (Agrees_f rs (mv (rg l n).f1 m).f0 due (by omega)) ?_
  cases hag : agB rs due (mv (rg l n).f1 m).f0 with
  | true =>
   simp only [if_true, wrap_nat (show m ≤ 140737488355328 by omega)]
   refine ihm (fun k hk => ?_)
   by_cases e : k = m
   ·rw [e]; exact hag
   ·exact hy k (by omega)
  | false =>
   obtain ⟨e1, e2⟩ := ht.here hm hy hag
   have e1' : bR rs due (rg l n) = true := e1
   rw [e1'] at ih
   simp only [if_true] at ih
   have d3 : br.length < 17592186044416 := Nat.lt_of_le_of_lt hbr (by decide)
   have d5 : (m : Int) ≤ ((rg l n).f1.length : Int) := by omega
   have d6 : go.length + ((rg l n).f1.take m).length < 5864062014805 := far_len hgo hrn m
   have d7 : (0 : Int) ≤ ((rg l n).f1.length : Int) := by omega
   have d8 : go.length + ((rg l n).f1.take 0).length < 5864062014805 := far_len hgo hrn 0
   simp only [Bool.false_eq_true, if_false]
   refine Ev.step ?_
   cases hc : (rg l n).f0 with
   | true =>
    have hc' : (rd_T49 l (n : Int)).f0 = true := hc
    have e2' : nR rs due (rg l n) = m := by rw [hc] at e2; simpa using e2
    rw [e2'] at ih
    simp only [cohousingref26_Run.j3, c1, c2, d1, d2, d3, d5, d6, hc', if_true, Int.toNat_natCast, Option.bind_some, hwn]
    exact ih
   | false =>
    have hc' : (rd_T49 l (n : Int)).f0 = false := hc
    have e2' : nR rs due (rg l n) = 0 := by rw [hc] at e2; simpa using e2
    rw [e2'] at ih
    simp only [cohousingref26_Run.j3, c1, c2, d1, d3, d7, d8, hc', if_true, if_false, Bool.false_eq_true, Option.bind_some, hwn]
    exact ih
theorem Run_ref {fl : List FT} {pa : List PT} {l : List GT} {rs : List YT} (due : Int) (hF : FewM fl pa) (hR : FewR l rs) : Ev (fun k => cohousingref26_Run.f k fl pa l due rs) (runR fl pa l due rs) := by
 have hf := hF.f
 have hp := hF.p
 have hll := hR.len
 have hrl := hR.r
 have out : runR fl pa l due rs = ([], [], 1) → Ev (fun k => cohousingref26_Run.j0 k l due rs true) (runR fl pa l due rs) := fun h => by
  rw [h]
  refine Ev.step ?_
  simp only [cohousingref26_Run.j0, if_true]
  exact Ev.pure _
 unfold cohousingref26_Run.f
 rw [runR_eq] at out ⊢
 refine Ev.bnd (Valid_f fl pa (by omega) hF.wb) ?_
 refine Ev.bnd (Rings_f fl pa l (by omega) (by omega) hR.rb) ?_
 refine Ev.bnd (Replies_f rs) ?_
 by_cases h1 : Market fl pa
 case neg =>
  simp only [decide_eq_false h1, Bool.false_eq_true, if_false]
  exact out (if_neg (fun h => h1 h.1))
 by_cases h2 : RingsR fl pa l
 case neg =>
  simp only [decide_eq_true h1, decide_eq_false h2, Bool.false_eq_true, if_false, if_true]
  exact out (if_neg (fun h => h2 h.2.2.2.2))
 by_cases h3 : RepliesV rs
 case neg =>
  simp only [decide_eq_true h1, decide_eq_true h2, decide_eq_false h3, Bool.false_eq_true, if_false, if_true]
  exact out (if_neg (fun h => h3 h.2.1))
 simp only [decide_eq_true h1, decide_eq_true h2, decide_eq_true h3, if_true]
 by_cases h4 : due < 0
 ·simp only [h4, if_true]
  exact out (if_neg (fun h => by have := h.2.2.1; omega))
 simp only [h4, if_false]
 by_cases h5 : due > 36524
 ·rw [decide_eq_true h5]
  exact out (if_neg (fun h => by have := h.2.2.2.1; omega))
 rw [decide_eq_false h5, if_pos ⟨h1, h3, by omega, by omega, h2⟩]
 have hsub := goR_sub rs due l
 have hal := ahead_len l hR.rb
 have hbl := brM_len (repM rs due rs.length) l
 have key : ∀ n, n ≤ l.length → Ev (fun k => cohousingref26_Run.l0 k l due rs (goR rs due l n) (brR rs due l n) (n : Int)) (goR rs due l l.length, brR rs due l l.length, 0) := by
  refine loopUp l.length _ ?_ ?_
  ·have c1 : ¬ (((l.length : Nat) : Int) < (l.length : Int)) := Int.lt_irrefl _
   refine Ev.step ?_
   simp only [cohousingref26_Run.l0, c1, if_false]
   exact Ev.pure _
  ·intro n hlt ih
   have c1 : (n : Int) < (l.length : Int) := Int.ofNat_lt.2 hlt
   have c2 : (0 : Int) ≤ (n : Int) := Int.natCast_nonneg n
   have hn20 : n ≤ 20 := Nat.le_trans (Nat.le_of_lt hlt) hll
   have hrn := hR.m n hlt
   have hgo : (goR rs due l n).length ≤ 20000 := Nat.le_trans (hsub n (Nat.le_of_lt hlt)).length_le (Nat.le_trans (hal n (Nat.le_of_lt hlt)) (Nat.mul_le_mul_left 1000 hn20))
   have hbr : (brR rs due l n).length ≤ 20 := Nat.le_trans (hbl n) hn20
   rw [goR_next, brR_next] at ih
   refine Ev.step ?_
   simp only [cohousingref26_Run.l0, c1, c2, if_true]
   exact run_l1 hR (goR rs due l n) (brR rs due l n) n _ hlt hrn hgo hbr ih 0 (Nat.zero_le _) (fun k hk => absurd hk (Nat.not_lt_zero _))
 refine Ev.step ?_
 simp only [cohousingref26_Run.j0, Bool.false_eq_true, if_false]
 exact key 0 (Nat.zero_le _)
theorem rd_set (xs : List Int) (i j : Nat) (y : Int) (hi : i < xs.length) : rd (xs.set i y) (j : Int) = if i = j then y else rd xs (j : Int) := by
 simp only [rd, Int.toNat_natCast, List.getD_eq_getElem?_getD, List.getElem?_set]
 by_cases h : i = j
 ·subst h; simp [hi]
 ·simp [h]
theorem rdB_set (xs : List Bool) (i j : Nat) (y : Bool) (hi : i < xs.length) : rdOf false (xs.set i y) (j : Int) = if i = j then y else rdOf false xs (j : Int) := by
 simp only [rdOf, Int.toNat_natCast, List.getD_eq_getElem?_getD, List.getElem?_set]
 by_cases h : i = j
 ·subst h; simp [hi]
 ·simp [h]
section
variable {fl : List FT} {pa : List PT} {ms : List MT} {gs : List Int}
theorem next_bad (h : ¬ MovesV fl pa ms ∨ ¬ GoneV pa gs) : nextR fl pa ms gs = ([], [], 1) := by
 rw [nextR_eq, if_neg]
 rintro ⟨_, h1, h2⟩
 rcases h with h | h
 ·exact h h1
 ·exact h h2
theorem next_l3 (hF : FewM fl pa) (hM : Market fl pa) (hV : MovesV fl pa ms) (hG : GoneV pa gs) (hg : gs.length ≤ 30) (x9 : List Int) (hx : x9.length = pa.length) (hfl : ∀ j, j < pa.length → rd x9 (j : Int) = flA ms pa j) :
  ∀ i, i ≤ pa.length → (Dist ms gs pa i → Ev (fun k => cohousingref26_Next.l3 k gs x9 ((kept ms gs pa i).map (fun p => p.f1)) (i : Int) fl pa fl (kept ms gs pa i)) (nextR fl pa ms gs)) := by
 have hp := hF.p
 refine loopUp pa.length _ ?_ ?_
 ·intro hd
  have c1 : ¬ (((pa.length : Nat) : Int) < (pa.length : Int)) := Int.lt_irrefl _
  refine Ev.step ?_
  simp only [cohousingref26_Next.l3, c1, if_false]
  rw [nextR_eq, if_pos ⟨hM, hV, hG⟩, if_pos hd]
  exact Ev.pure _
 ·intro i hi ih hd
  have c1 : (i : Int) < (pa.length : Int) := by omega
  have c2 : (0 : Int) ≤ (i : Int) := by omega
  have c3 : (i : Int) < (x9.length : Int) := by rw [hx]; exact c1
  have hw := wrap_nat (show i ≤ 140737488355328 by omega)
  have hkl : (kept ms gs pa i).length ≤ 20 := by have := kept_len ms gs pa i; have := stay_len gs pa i; omega
  have l1 : ((kept ms gs pa i).map (fun p => p.f1)).length < 17592186044416 := by rw [List.length_map]; omega
  have l2 : (kept ms gs pa i).length < 3518437208883 := by omega
  refine Ev.step ?_
  simp only [cohousingref26_Next.l3, c1, c2, if_true]
  refine Ev.bnd (In_f gs (pid pa i) (by omega)) ?_
  by_cases hgi : pid pa i ∈ gs
  ·have hg' := (inR_pos gs (pid pa i)).2 hgi
   simp only [hg', if_true, hw]
   have hk : kept ms gs pa (i + 1) = kept ms gs pa i := by unfold kept; rw [stay_succ, if_pos hgi, List.append_nil]
   rw [hk] at ih
   refine ih (fun a b hab hb ha' hb' => ?_)
   by_cases e : b = i
   ·subst e; exact absurd hgi hb'
   ·exact hd a b hab (by omega) ha' hb'
  ·have hg' : ¬ (inR gs (pid pa i) ≥ 0) := fun h => hgi ((inR_pos gs (pid pa i)).1 h)
   have hk : kept ms gs pa (i + 1) = kept ms gs pa i ++ [newP ms pa i] := by unfold kept; rw [stay_succ, if_neg hgi, List.map_append]; rfl
   rw [hk, List.map_append] at ih
   have hxi := hfl i hi
   have hmem : ∀ x, x ∈ (kept ms gs pa i).map (fun p => p.f1) ↔ ∃ a, a < i ∧ pid pa a ∉ gs ∧ flA ms pa a = x := by
    intro x
    unfold kept
    rw [List.map_map]
    simp only [List.mem_map, mem_stay, Function.comp, newP]
    constructor
    ·rintro ⟨a, ⟨h1, h2⟩, e⟩; exact ⟨a, h1, h2, e⟩
    ·rintro ⟨a, h1, h2, e⟩; exact ⟨a, ⟨h1, h2⟩, e⟩
   simp only [hg', c3, if_true, if_false, hxi]
   by_cases h0 : flA ms pa i = 0
   ·simp only [h0, l1, l2, if_true, hw]
    have ih' := ih (fun a b hab hb ha' hb' h0' => by
     by_cases e : b = i
     ·subst e; exact absurd h0 h0'
     ·exact hd a b hab (by omega) ha' hb' h0')
    simp only [List.map_cons, List.map_nil, newP, h0] at ih'
    exact ih'
   ·simp only [h0, if_false]
    refine Ev.bnd (In_f ((kept ms gs pa i).map (fun p => p.f1)) (flA ms pa i) (by omega)) ?_
    by_cases ht : flA ms pa i ∈ (kept ms gs pa i).map (fun p => p.f1)
    ·have ht' := (inR_pos _ _).2 ht
     simp only [ht', if_true]
     obtain ⟨a, ha, hag, e⟩ := (hmem _).1 ht
     rw [nextR_eq, if_pos ⟨hM, hV, hG⟩, if_neg (fun hdd : Dist ms gs pa pa.length => hdd a i ha hi hag hgi h0 e)]
     exact Ev.pure _
    ·have ht' : ¬ (inR ((kept ms gs pa i).map (fun p => p.f1)) (flA ms pa i) ≥ 0) := fun h => ht ((inR_pos _ _).1 h)
     simp only [ht', l1, l2, if_true, if_false, hw]
     exact ih (fun a b hab hb ha' hb' h0' => by
      by_cases e : b = i
      ·subst e; exact fun e2 => ht ((hmem _).2 ⟨a, hab, ha', e2⟩)
      ·exact hd a b hab (by omega) ha' hb' h0')
theorem next_l2 (hF : FewM fl pa) (hM : Market fl pa) (hV : MovesV fl pa ms) (hg : gs.length ≤ 30) (x9 : List Int) (hx : x9.length = pa.length) (hfl : ∀ j, j < pa.length → rd x9 (j : Int) = flA ms pa j) :
  ∀ m, m ≤ gs.length → ((∀ k, k < m → (∃ i, i < pa.length ∧ pid pa i = rd gs (k : Int)) ∧ (0 < k → rd gs ((k - 1 : Nat) : Int) < rd gs (k : Int))) → Ev (fun k => cohousingref26_Next.l2 k gs x9 (m : Int) fl pa) (nextR fl pa ms gs)) := by
 have hp := hF.p
 refine loopUp gs.length _ ?_ ?_
 ·intro hk
  have c1 : ¬ (((gs.length : Nat) : Int) < (gs.length : Int)) := Int.lt_irrefl _
  have hG : GoneV pa gs := by
   have ha := asc_adj (fun n => rd gs (n : Int)) (rd gs 0 - 1) gs.length
   have h2 := ha.1 (fun n hn => by
    by_cases e : n = 0
    ·subst e; rw [if_pos rfl]; show rd gs 0 - 1 < rd gs ((0 : Nat) : Int); have : ((0 : Nat) : Int) = 0 := rfl; rw [this]; omega
    ·rw [if_neg e]; exact (hk n hn).2 (by omega))
   exact ⟨fun k h => (hk k h).1, h2.2⟩
  refine Ev.step ?_
  simp only [cohousingref26_Next.l2, c1, if_false]
  exact next_l3 hF hM hV hG hg x9 hx hfl 0 (Nat.zero_le _) (fun i j _ hj => absurd hj (Nat.not_lt_zero _))
 ·intro m hm ih hk
  have c1 : (m : Int) < (gs.length : Int) := by omega
  have c2 : (0 : Int) ≤ (m : Int) := by omega
  have hw := wrap_nat (show m ≤ 140737488355328 by omega)
  have next : (∃ i, i < pa.length ∧ pid pa i = rd gs (m : Int)) → (0 < m → rd gs ((m - 1 : Nat) : Int) < rd gs (m : Int)) → Ev (fun k => cohousingref26_Next.l2 k gs x9 ((m + 1 : Nat) : Int) fl pa) (nextR fl pa ms gs) := fun a1 a2 => ih (fun k h => by
   by_cases e : k = m
   ·subst e; exact ⟨a1, a2⟩
   ·exact hk k (by omega))
  refine Ev.step ?_
  simp only [cohousingref26_Next.l2, c1, c2, if_true]
  refine Ev.bnd (Party_f fl pa (rd gs (m : Int)) (by omega)) ?_
  rcases partyR_is pa (rd gs (m : Int)) with ⟨e, hno⟩ | ⟨j, hj, e1, e⟩
  ·rw [e]
   simp only [show ((-1 : Int) < 0) by omega, if_true]
   rw [next_bad (.inr (fun h => by obtain ⟨i, hi, e'⟩ := h.party m hm; exact hno i hi e'))]
   exact Ev.pure _
  ·rw [e]
   simp only [show ¬ ((j : Int) < 0) by omega, if_false]
   by_cases h0 : 0 < m
   ·have d1 : (m : Int) > 0 := by omega
    have d2 : (0 : Int) ≤ ((m - 1 : Nat) : Int) := by omega
    have d3 : ((m - 1 : Nat) : Int) < (gs.length : Int) := by omega
    by_cases c : rd gs (m : Int) ≤ rd gs ((m - 1 : Nat) : Int)
    ·simp only [d1, wrap_pred h0 (show m ≤ 140737488355328 by omega), d2, d3, c, if_true]
     rw [next_bad (.inr (fun h => by have := h.asc (m - 1) m (by omega) hm; omega))]
     exact Ev.pure _
    ·simp only [d1, wrap_pred h0 (show m ≤ 140737488355328 by omega), d2, d3, c, if_true, if_false, hw]
     exact next ⟨j, hj, e1⟩ (fun _ => by omega)
   ·have d1 : ¬ ((m : Int) > 0) := by omega
    simp only [d1, if_false, hw]
    exact next ⟨j, hj, e1⟩ (fun h => absurd h h0)
theorem next_l1 (hF : FewM fl pa) (hM : Market fl pa) (hm30 : ms.length ≤ 30) (hg : gs.length ≤ 30) :
  ∀ m, m ≤ ms.length → ∀ (x9 : List Int) (x10 : List Bool), x9.length = pa.length → x10.length = pa.length → (∀ j, j < pa.length → rd x9 (j : Int) = (toM ms m (pid pa j)).getD (pfl pa j)) → (∀ j, j < pa.length → rdOf false x10 (j : Int) = (toM ms m (pid pa j)).isSome) →
   (∀ k, k < m → Fits fl pa (mv ms k) ∧ ∀ j, j < k → (mv ms j).f0 ≠ (mv ms k).f0) → Ev (fun k => cohousingref26_Next.l1 k ms gs x9 x10 (m : Int) fl pa) (nextR fl pa ms gs) := by
 have hf := hF.f
 have hp := hF.p
 refine loopUp ms.length _ ?_ ?_
 ·intro x9 x10 h9 h10 hfl hmo hk
  have c1 : ¬ (((ms.length : Nat) : Int) < (ms.length : Int)) := Int.lt_irrefl _
  have hV : MovesV fl pa ms := ⟨fun x hx => by
   obtain ⟨k, hk', e⟩ := List.mem_iff_getElem.1 hx
   have := (hk k hk').1
   rwa [mv_get ms k hk', e] at this, (nodup_index _ ms).2 (fun i j hij hj => (hk j hj).2 i hij)⟩
  refine Ev.step ?_
  simp only [cohousingref26_Next.l1, c1, if_false]
  exact next_l2 hF hM hV hg x9 h9 hfl 0 (Nat.zero_le _) (fun k h => absurd h (Nat.not_lt_zero _))
 ·intro m hm ih x9 x10 h9 h10 hfl hmo hk
  have c1 : (m : Int) < (ms.length : Int) := by omega
  have c2 : (0 : Int) ≤ (m : Int) := by omega
  refine Ev.step ?_
  simp only [cohousingref26_Next.l1, c1, c2, if_true]
  refine Ev.bnd (move_f fl pa (mv ms m) (by omega) (by omega)) ?_
  by_cases hmv : MoveR fl pa (mv ms m)
  case neg =>
   simp only [decide_eq_false hmv, Bool.false_eq_true, if_false]
   rw [next_bad (.inl (fun h => hmv ((moveR_iff hM _).2 (h.fit _ (mv_mem hm)))))]
   exact Ev.pure _
  have hfit := (moveR_iff hM _).1 hmv
  obtain ⟨j, e, hj, e1, _, _⟩ := hmv
  have hmv' : MoveR fl pa (mv ms m) := (moveR_iff hM _).2 hfit
  simp only [decide_eq_true hmv', if_true]
  refine Ev.bnd (Party_f fl pa (mv ms m).f0 (by omega)) ?_
  rw [e]
  have d1 : (0 : Int) ≤ (j : Int) := by omega
  have d2 : (j : Int) < (x10.length : Int) := by rw [h10]; omega
  have d3 : (j : Int) < (x9.length : Int) := by rw [h9]; omega
  have hmj := hmo j hj
  rw [e1] at hmj
  cases hs : (toM ms m (mv ms m).f0) with
  | some t =>
   rw [hs] at hmj
   have hmj' : rdOf false x10 (j : Int) = true := hmj
   simp only [d1, d2, hmj', if_true]
   obtain ⟨k, hk', e2, _⟩ := toM_some hs
   rw [next_bad (.inl (fun h => (nodup_index _ ms).1 h.homes k m hk' hm e2))]
   exact Ev.pure _
  | none =>
   rw [hs] at hmj
   have hmj' : rdOf false x10 (j : Int) = false := hmj
   simp only [d1, d2, d3, hmj', if_true, Bool.false_eq_true, if_false, Int.toNat_natCast, wrap_nat (show m ≤ 140737488355328 by omega)]
   refine ih (x9.set j (mv ms m).f2) (x10.set j true) (by rw [List.length_set]; exact h9) (by rw [List.length_set]; exact h10) (fun i hi => ?_) (fun i hi => ?_) (fun k hk' => ?_)
   ·rw [rd_set _ _ _ _ (by rw [h9]; exact hj), toM_succ]
    unfold upd
    by_cases ei : j = i
    ·subst ei
     rw [if_pos rfl, if_pos e1]
     rfl
    ·rw [if_neg ei, if_neg (fun h => ei (hM.inj hj hi (by rw [e1]; exact h.symm)))]
     exact hfl i hi
   ·rw [rdB_set _ _ _ _ (by rw [h10]; exact hj), toM_succ]
    unfold upd
    by_cases ei : j = i
    ·subst ei
     rw [if_pos rfl, if_pos e1]
     rfl
    ·rw [if_neg ei, if_neg (fun h => ei (hM.inj hj hi (by rw [e1]; exact h.symm)))]
     exact hmo i hi
   ·by_cases ek : k = m
    ·subst ek
     exact ⟨hfit, fun i hi => toM_none hs i hi⟩
    ·exact hk k (by omega)
theorem Next_ref (hF : FewM fl pa) (hm : ms.length ≤ 30) (hg : gs.length ≤ 30) : Ev (fun k => cohousingref26_Next.f k fl pa ms gs) (nextR fl pa ms gs) := by
 have hf := hF.f
 have hp := hF.p
 unfold cohousingref26_Next.f
 refine Ev.bnd (Valid_f fl pa (by omega) hF.wb) ?_
 by_cases hM : Market fl pa
 case neg =>
  simp only [decide_eq_false hM, Bool.false_eq_true, if_false]
  rw [nextR_eq, if_neg (fun h => hM h.1)]
  exact Ev.pure _
 have a1 : (0 : Int) ≤ (pa.length : Int) := by omega
 have a2 : pa.length ≤ 35184372088832 := by omega
 have a3 : pa.length ≤ 281474976710656 := by omega
 simp only [decide_eq_true hM, if_true, a1, Int.toNat_natCast, a2, a3]
 have key : ∀ i, i ≤ pa.length → ∀ x9 : List Int, x9.length = pa.length → (∀ j, j < i → rd x9 (j : Int) = pfl pa j) → Ev (fun k => cohousingref26_Next.l0 k ms gs x9 (List.replicate pa.length false) (i : Int) fl pa) (nextR fl pa ms gs) := by
  refine loopUp pa.length _ ?_ ?_
  ·intro x9 h9 hx
   have c1 : ¬ (((pa.length : Nat) : Int) < (pa.length : Int)) := Int.lt_irrefl _
   refine Ev.step ?_
   simp only [cohousingref26_Next.l0, c1, if_false]
   refine next_l1 hF hM hm hg 0 (Nat.zero_le _) x9 (List.replicate pa.length false) h9 (by simp) (fun j hj => hx j hj) (fun j hj => ?_) (fun k hk => absurd hk (Nat.not_lt_zero _))
   simp [rdOf, List.getD_eq_getElem?_getD, hj, toM, foldM]
  ·intro i hi ih x9 h9 hx
   have c1 : (i : Int) < (pa.length : Int) := by omega
   have c2 : (0 : Int) ≤ (i : Int) := by omega
   have c3 : (i : Int) < (x9.length : Int) := by rw [h9]; exact c1
   refine Ev.step ?_
   simp only [cohousingref26_Next.l0, c1, c2, c3, if_true, Int.toNat_natCast, wrap_nat (show i ≤ 140737488355328 by omega)]
   refine ih _ (by rw [List.length_set]; exact h9) (fun j hj => ?_)
   rw [rd_set _ _ _ _ (by rw [h9]; exact hi)]
   by_cases e : i = j
   ·subst e; rw [if_pos rfl]
   ·rw [if_neg e]; exact hx j (by omega)
 exact key 0 (Nat.zero_le _) (List.replicate pa.length 0) (by simp) (fun j hj => absurd hj (Nat.not_lt_zero _))
end
theorem matches26_ (fl : List FT) (pa : List PT) (l : List GT) (due : Int) (rs : List YT) (ms : List MT) (gs : List Int) : Ev (fun k => cohousinglaw26_ChainMatchesReference.f k fl pa l due rs ms gs) true := by
 have out : Ev (fun k => cohousinglaw26_ChainMatchesReference.j0 k l due rs ms gs true true fl pa) true := by
  refine Ev.step ?_
  simp only [cohousinglaw26_ChainMatchesReference.j0, if_true]
  exact Ev.pure _
 unfold cohousinglaw26_ChainMatchesReference.f
 refine Ev.bnd head26 ?_
 refine Ev.bnd (FewM_f fl pa) ?_
 by_cases h1 : FewM fl pa
 case neg =>
  simp only [decide_eq_false h1, Bool.false_eq_true, if_false]
  exact out
 simp only [decide_eq_true h1, if_true]
 refine Ev.bnd (FewR_f l rs) ?_
 by_cases h2 : FewR l rs
 case neg =>
  simp only [decide_eq_false h2, Bool.false_eq_true, if_false]
  exact out
 simp only [decide_eq_true h2, if_true]
 by_cases h3 : (ms.length : Int) > 30
 ·simp only [h3, if_true]; exact out
 simp only [h3, if_false]
 by_cases h4 : (gs.length : Int) > 30
 ·rw [decide_eq_true h4]; exact out
 rw [decide_eq_false h4]
 have hf := h1.f
 have hp := h1.p
 have f1 := Run_f (rs := rs) due h1 h2.len h2.m (by have := h2.r; omega)
 have f2 := Next_f (ms := ms) (gs := gs) h1 (by omega) (by omega)
 have hgl : (runR fl pa l due rs).1.length ≤ 20000 ∧ (runR fl pa l due rs).2.1.length ≤ 20000 := by
  rw [runR_eq]
  split
  ·refine ⟨go_few h2.len h2.m, ?_⟩
   have := brM_len (repM rs due rs.length) l l.length
   have := h2.len
   show (brM _ l l.length).length ≤ _
   omega
  ·simp
 have hnl : (nextR fl pa ms gs).1.length ≤ 20 ∧ (nextR fl pa ms gs).2.1.length ≤ 20 ∧ WB (nextR fl pa ms gs).2.1 := by
  rw [nextR_eq]
  split
  ·split
   ·have hk := few_kept (ms := ms) (gs := gs) h1
    exact ⟨h1.f, hk.p, hk.wb⟩
   ·exact ⟨by simp, by simp, fun i hi => absurd hi (Nat.not_lt_zero _)⟩
  ·exact ⟨by simp, by simp, fun i hi => absurd hi (Nat.not_lt_zero _)⟩
 refine Ev.step ?_
 simp only [cohousinglaw26_ChainMatchesReference.j0, Bool.false_eq_true, if_false, f1, f2, Option.bind_some]
 refine Ev.bnd (Run_ref due h1 h2) ?_
 refine Ev.bnd (Next_ref h1 (by omega) (by omega)) ?_
 simp only [if_true]
 refine Ev.bnd (SameMoves_f _ _ (by omega)) ?_
 simp only [decide_true, if_true]
 refine Ev.bnd (SameInts_f _ _ (by omega)) ?_
 simp only [decide_true, if_true]
 refine Ev.bnd (Same_f _ _ _ _ (by omega) (by omega) hnl.2.2) ?_
 simp only [and_self, decide_true, if_true, beq_self_eq_true]
 exact Ev.pure _
end Go.Proofs.Ytocbiggglnpeoaa.M
end
