/- Part 1 of the proof of PiecewiseReduced: what it alone needs. -/
import Derived.Test.YtmhimmodigeeiaaCBj
set_option linter.unusedVariables false
set_option linter.unusedSimpArgs false
section
namespace Go.Proofs.Ytmhimmodigeeiaa.P
open Go.RowKit Go.Proofs.YtmhimmodigeeiaaW.PrintWords Go.Proofs.YtmhimmodigeeiaaW.PrintLast Go.Proofs.YtmhimmodigeeiaaW.PrintMore
attribute [local go_sem] max2_int min2_int max_two min_two max_three min_three max_four min_four
set_option linter.unusedVariables false
set_option linter.unusedSimpArgs false
set_option maxHeartbeats 8000000
set_option maxRecDepth 100000
section
mutual
def cohousinglaw05_PiecewiseReduced.j0 : Nat → List (S51) → List (S51) → Bool → Bool → Int → Int → Option (Bool)
 | 0, _, _, _, _, _, _ => none
 | k + 1, x0, x1, x7, x26, x649000, x649001 => if x26 = true then (some x7) else ((piecewise_Add.f x0 x1).bind fun bt652 => ((piecewise_Scale.f k x0 x649000 x649001).bind fun bt656 => ((piecewise_Least.f x0 x1).bind fun bt660 => (if bt652.2 = 0 then ((piecewise_Valid.f k bt652.1).bind fun t664 => (if t664 = true then ((cohousingref05_Valid.f k bt652.1).bind fun t665 => (if t665 = true then ((cohousingref05_Reduced.f k bt652.1).bind fun t666 => (cohousinglaw05_PiecewiseReduced.j1 k x7 bt656.1 bt656.2 bt660.1 bt660.2 t666)) else (cohousinglaw05_PiecewiseReduced.j1 k x7 bt656.1 bt656.2 bt660.1 bt660.2 false))) else (cohousinglaw05_PiecewiseReduced.j1 k x7 bt656.1 bt656.2 bt660.1 bt660.2 false))) else (cohousinglaw05_PiecewiseReduced.j1 k x7 bt656.1 bt656.2 bt660.1 bt660.2 true)))))
def cohousinglaw05_PiecewiseReduced.j1 : Nat → Bool → List (S51) → Int → List (S51) → Int → Bool → Option (Bool)
 | 0, _, _, _, _, _, _ => none
 | k + 1, x7, x10, x11, x12, x13, x14 => if x11 = 0 then ((piecewise_Valid.f k x10).bind fun t667 => (if t667 = true then ((cohousingref05_Valid.f k x10).bind fun t668 => (if t668 = true then ((cohousingref05_Reduced.f k x10).bind fun t669 => (if x13 = 0 then ((piecewise_Valid.f k x12).bind fun t670 => (if t670 = true then ((cohousingref05_Valid.f k x12).bind fun t671 => (if t671 = true then ((cohousingref05_Reduced.f k x12).bind fun t672 => (if x7 = true then (if x14 = true then (if t669 = true then (some t672) else (some false)) else (some false)) else (some false))) else (if x7 = true then (if x14 = true then (if t669 = true then (some false) else (some false)) else (some false)) else (some false)))) else (if x7 = true then (if x14 = true then (if t669 = true then (some false) else (some false)) else (some false)) else (some false)))) else (if x7 = true then (if x14 = true then (if t669 = true then (some true) else (some false)) else (some false)) else (some false)))) else (if x13 = 0 then ((piecewise_Valid.f k x12).bind fun t673 => (if t673 = true then ((cohousingref05_Valid.f k x12).bind fun t674 => (if t674 = true then ((cohousingref05_Reduced.f k x12).bind fun t675 => (if x7 = true then (if x14 = true then (some false) else (some false)) else (some false))) else (if x7 = true then (if x14 = true then (some false) else (some false)) else (some false)))) else (if x7 = true then (if x14 = true then (some false) else (some false)) else (some false)))) else (if x7 = true then (if x14 = true then (some false) else (some false)) else (some false))))) else (if x13 = 0 then ((piecewise_Valid.f k x12).bind fun t676 => (if t676 = true then ((cohousingref05_Valid.f k x12).bind fun t677 => (if t677 = true then ((cohousingref05_Reduced.f k x12).bind fun t678 => (if x7 = true then (if x14 = true then (some false) else (some false)) else (some false))) else (if x7 = true then (if x14 = true then (some false) else (some false)) else (some false)))) else (if x7 = true then (if x14 = true then (some false) else (some false)) else (some false)))) else (if x7 = true then (if x14 = true then (some false) else (some false)) else (some false))))) else (if x13 = 0 then ((piecewise_Valid.f k x12).bind fun t679 => (if t679 = true then ((cohousingref05_Valid.f k x12).bind fun t680 => (if t680 = true then ((cohousingref05_Reduced.f k x12).bind fun t681 => (if x7 = true then (if x14 = true then (some t681) else (some false)) else (some false))) else (if x7 = true then (if x14 = true then (some false) else (some false)) else (some false)))) else (if x7 = true then (if x14 = true then (some false) else (some false)) else (some false)))) else (if x7 = true then (if x14 = true then (some true) else (some false)) else (some false)))
end
def cohousinglaw05_PiecewiseReduced.f (k : Nat) (l0 : List (S51)) (l1 : List (S51)) (a2_0 : Int) (a2_1 : Int) : Option (Bool) := (cohousinglaw05_head.f k).bind fun t649 => ((cohousinglaw05_both.f k l0 l1).bind fun t650 => (if t650 = true then ((cohousingref01_Valid.f k a2_0 a2_1).bind fun t651 => (cohousinglaw05_PiecewiseReduced.j0 k l0 l1 t649 (!t651) a2_0 a2_1)) else (cohousinglaw05_PiecewiseReduced.j0 k l0 l1 t649 true a2_0 a2_1)))
theorem cohousinglaw05_PiecewiseReduced.calls (k : Nat) (A0 : Option Addr) (c0 : Nat) (l0 : List (S51)) (A1 : Option Addr) (c1 : Nat) (l1 : List (S51)) (a2_0 : Int) (a2_1 : Int) (r : Bool) (w : World) (hr0 : Kd.C k51 w A0 l0.length l0) (hc0 : l0.length ≤ c0) (hr1 : Kd.C k51 w A1 l1.length l1) (hc1 : l1.length ≤ c1) (h : cohousinglaw05_PiecewiseReduced.f k l0 l1 a2_0 a2_1 = some r) :
  Calls Try.prog 8 #[.slice A0 l0.length c0, .slice A1 l1.length c1, .agg #[.int .i64 a2_0, .int .i64 a2_1]] w fun e w' => e = .returned (.bool r) ∧ Below w.heap.size w w' := by
 have hu24 := Try.underlying24
 have HR0 := mk_ hr0
 have HC0 := mk_ hc0
 clear hr0 hc0
 have HR1 := mk_ hr1
 have HC1 := mk_ hc1
 clear hr1 hc1
 have HB := mk_ (Below.refl w.heap.size w)
 have H : ((cohousinglaw05_head.f k).bind fun t649 => ((cohousinglaw05_both.f k l0 l1).bind fun t650 => (if t650 = true then ((cohousingref01_Valid.f k a2_0 a2_1).bind fun t651 => (cohousinglaw05_PiecewiseReduced.j0 k l0 l1 t649 (!t651) a2_0 a2_1)) else (cohousinglaw05_PiecewiseReduced.j0 k l0 l1 t649 true a2_0 a2_1)))) = some r := h
 clear h
 replace H := Option.bind_eq_some_iff.mp H
 obtain ⟨t649, A40, H⟩ := H
 replace H : ((cohousinglaw05_both.f k l0 l1).bind fun t650 => (if t650 = true then ((cohousingref01_Valid.f k a2_0 a2_1).bind fun t651 => (cohousinglaw05_PiecewiseReduced.j0 k l0 l1 t649 (!t651) a2_0 a2_1)) else (cohousinglaw05_PiecewiseReduced.j0 k l0 l1 t649 true a2_0 a2_1))) = some r := H
 have A4 := mk_ A40
 clear A40
 have HC5 := mk_ H
 clear H
 go_enter Try.func8, Try.ntmps8
 go_upto_region 2 with (first | ((with_reducible refine gate_dst (N := 5) rfl ?_); refine box_event ?hg (N := 5) ?hd (cs := #[.int .i64 a2_0, .int .i64 a2_1]) (t := 24) ?hr ?_; (case hd => rfl); (case hg => rfl); (case hr => first | (go_simp; done) | (go_simp; rfl)); intro gb648 hg w6 hbox hb; have n0_ := mk_ (below_step (bb_ HB) hb); have n1_ := mk_ (hbox); have n2_ := mk_ (bz_ hg (bb_ HB)); have n3_ := mk_ (bz_ hg (bb_ HB)); clear HB; revert n0_ n1_ n2_ n3_; intro HB BK648 GW648 GE648; clear hb hbox hg) | ((with_reducible refine gate_callee (f := 10) rfl ?_); refine gl_ (some 17) Try.func10 #[] ?_; (with_reducible refine (cohousinglaw05_head.calls k  t649 _ A4.out).mono ?_); rintro e w7 ⟨rfl, hb⟩; refine ⟨_, rfl, ?_⟩; have n0_ := mk_ (blk_below (kk_ BK648) hb); have n1_ := mk_ (below_step (bs_ HB GE648.out) hb); clear BK648 HB; revert n0_ n1_; intro BK648 HB; (try clear hb); (try clear hb2); (try clear hk); (try clear hi)))
 (try simp only [Act.put, sI_, s0_, sS_])
 go_cut [26] (fun v26 wc => ∃ (kq : Nat) (x26_4 : Bool), v26 = .bool x26_4 ∧ Aside0 (cohousinglaw05_PiecewiseReduced.j0 kq l0 l1 t649 x26_4 a2_0 a2_1 = some r) ∧ Aside0 (kq ≤ k) ∧ Aside0 (wc.heap[gb648]? = some (.cells #[.int .i64 a2_0, .int .i64 a2_1] 24 (0, 0))) ∧ Aside0 (Below w.heap.size w wc))
 case first =>
  have H := HC5.out
  clear HC5
  replace H := Option.bind_eq_some_iff.mp H
  obtain ⟨t650, A80, H⟩ := H
  replace H : (if t650 = true then ((cohousingref01_Valid.f k a2_0 a2_1).bind fun t651 => (cohousinglaw05_PiecewiseReduced.j0 k l0 l1 t649 (!t651) a2_0 a2_1)) else (cohousinglaw05_PiecewiseReduced.j0 k l0 l1 t649 true a2_0 a2_1)) = some r := H
  have A8 := mk_ A80
  clear A80
  by_cases c9 : t650 = true
  rotate_left
  ·replace c9 := Bool.eq_false_iff.mpr c9
   subst c9
   have H1 : (cohousinglaw05_PiecewiseReduced.j0 k l0 l1 t649 true a2_0 a2_1) = some r := by rw [if_neg (show ¬ (false = true) by decide)] at H; exact H
   clear H
   have H := H1
   clear H1
   have H' := mk_ H
   clear H
   go_wp2_with (first | ((with_reducible refine gate_callee (f := 25) rfl ?_); refine gl_ (some 20) Try.func25 #[.slice A0 l0.length c0, .slice A1 l1.length c1] ?_; (with_reducible refine (cohousinglaw05_both.calls k _ _ l0 _ _ l1 false _ ?side1 ?side2 ?side3 ?side4 A8.out).mono ?_); (case side1 => exact cc_ ((Kd.C_below HR0.out HB.out))); (case side2 => exact HC0.out); (case side3 => exact cc_ ((Kd.C_below HR1.out HB.out))); (case side4 => exact HC1.out); rintro e w14 ⟨rfl, hb⟩; refine ⟨_, rfl, ?_⟩; have n0_ := mk_ (blk_below (kk_ BK648) hb); have n1_ := mk_ (below_step (bs_ HB GE648.out) hb); clear BK648 HB; revert n0_ n1_; intro BK648 HB; (try clear hb); (try clear hb2); (try clear hk); (try clear hi)))
   go_meet
   case rel => exact ⟨_, (true), sd_, H', ⟨by first | omega | exact Nat.le_refl _⟩, ⟨kk_ BK648⟩, ⟨bs1_ HB GE648⟩⟩
  subst c9
  have H1 : ((cohousingref01_Valid.f k a2_0 a2_1).bind fun t651 => (cohousinglaw05_PiecewiseReduced.j0 k l0 l1 t649 (!t651) a2_0 a2_1)) = some r := by rw [if_pos rfl] at H; exact H
  clear H
  have H := H1
  clear H1
  replace H := Option.bind_eq_some_iff.mp H
  obtain ⟨t651, A100, H⟩ := H
  replace H : (cohousinglaw05_PiecewiseReduced.j0 k l0 l1 t649 (!t651) a2_0 a2_1) = some r := H
  have A10 := mk_ A100
  clear A100
  have H' := mk_ H
  clear H
  go_wp2_with (first | ((with_reducible refine gate_callee (f := 25) rfl ?_); refine gl_ (some 20) Try.func25 #[.slice A0 l0.length c0, .slice A1 l1.length c1] ?_; (with_reducible refine (cohousinglaw05_both.calls k _ _ l0 _ _ l1 true _ ?side1 ?side2 ?side3 ?side4 A8.out).mono ?_); (case side1 => exact cc_ ((Kd.C_below HR0.out HB.out))); (case side2 => exact HC0.out); (case side3 => exact cc_ ((Kd.C_below HR1.out HB.out))); (case side4 => exact HC1.out); rintro e w11 ⟨rfl, hb⟩; refine ⟨_, rfl, ?_⟩; have n0_ := mk_ (blk_below (kk_ BK648) hb); have n1_ := mk_ (below_step (bs_ HB GE648.out) hb); clear BK648 HB; revert n0_ n1_; intro BK648 HB; (try clear hb); (try clear hb2); (try clear hk); (try clear hi); have hcz12_0 := bc0_ BK648.out; have hcz12_1 := bc1_ BK648.out; have hfz12_0 := blk_frozen BK648.out 0; have hfz12_1 := blk_frozen BK648.out 1) | (go_at_call 30; (with_reducible refine (cohousingref01_Valid.calls k a2_0 a2_1 t651 _ A10.out).mono ?_); rintro e w13 ⟨rfl, hb⟩; have n0_ := mk_ (blk_below (kk_ BK648) hb); have n1_ := mk_ (below_step (bs_ HB GE648.out) hb); clear BK648 HB; revert n0_ n1_; intro BK648 HB; (try clear hb); (try clear hb2); (try clear hk); (try clear hi)))
  go_meet
  case rel => exact ⟨_, (!t651), sd_, H', ⟨by first | omega | exact Nat.le_refl _⟩, ⟨kk_ BK648⟩, ⟨bs1_ HB GE648⟩⟩
 case rest =>
  clear HC5
  try clear c1; try clear c2; try clear p2; try clear c8; try clear c9; try clear c10; try clear hcz12_0; try clear hcz12_1; try clear hfz12_0; try clear hfz12_1
  obtain ⟨kq, x26_4, rfl, HA, HJ4, BK648, HB⟩ := hcut
  cases kq with
  | zero => exact absurd HA.out (by simp [cohousinglaw05_PiecewiseReduced.j0])
  | succ kj4 =>
   have H := HA.out
   clear HA
   simp only [cohousinglaw05_PiecewiseReduced.j0] at H
   by_cases c15 : x26_4 = true
   ·subst c15
    have H1 : (some t649) = some r := by rw [if_pos rfl] at H; exact H
    clear H
    have H := H1
    clear H1
    obtain rfl := Option.some.inj H
    go_wp2
    go_ret
    exact ⟨ew_, bs1_ HB GE648⟩
   replace c15 := Bool.eq_false_iff.mpr c15
   subst c15
   have H1 : ((piecewise_Add.f l0 l1).bind fun bt652 => ((piecewise_Scale.f kj4 l0 a2_0 a2_1).bind fun bt656 => ((piecewise_Least.f l0 l1).bind fun bt660 => (if bt652.2 = 0 then ((piecewise_Valid.f kj4 bt652.1).bind fun t664 => (if t664 = true then ((cohousingref05_Valid.f kj4 bt652.1).bind fun t665 => (if t665 = true then ((cohousingref05_Reduced.f kj4 bt652.1).bind fun t666 => (cohousinglaw05_PiecewiseReduced.j1 kj4 t649 bt656.1 bt656.2 bt660.1 bt660.2 t666)) else (cohousinglaw05_PiecewiseReduced.j1 kj4 t649 bt656.1 bt656.2 bt660.1 bt660.2 false))) else (cohousinglaw05_PiecewiseReduced.j1 kj4 t649 bt656.1 bt656.2 bt660.1 bt660.2 false))) else (cohousinglaw05_PiecewiseReduced.j1 kj4 t649 bt656.1 bt656.2 bt660.1 bt660.2 true))))) = some r := by rw [if_neg (show ¬ (false = true) by decide)] at H; exact H
   clear H
   have H := H1
   clear H1
   replace H := Option.bind_eq_some_iff.mp H
   obtain ⟨⟨t652, t653⟩, A160, H⟩ := H
   replace H : ((piecewise_Scale.f kj4 l0 a2_0 a2_1).bind fun bt656 => ((piecewise_Least.f l0 l1).bind fun bt660 => (if t653 = 0 then ((piecewise_Valid.f kj4 t652).bind fun t664 => (if t664 = true then ((cohousingref05_Valid.f kj4 t652).bind fun t665 => (if t665 = true then ((cohousingref05_Reduced.f kj4 t652).bind fun t666 => (cohousinglaw05_PiecewiseReduced.j1 kj4 t649 bt656.1 bt656.2 bt660.1 bt660.2 t666)) else (cohousinglaw05_PiecewiseReduced.j1 kj4 t649 bt656.1 bt656.2 bt660.1 bt660.2 false))) else (cohousinglaw05_PiecewiseReduced.j1 kj4 t649 bt656.1 bt656.2 bt660.1 bt660.2 false))) else (cohousinglaw05_PiecewiseReduced.j1 kj4 t649 bt656.1 bt656.2 bt660.1 bt660.2 true)))) = some r := H
   have A16 := mk_ A160
   clear A160
   replace H := Option.bind_eq_some_iff.mp H
   obtain ⟨⟨t656, t659⟩, A170, H⟩ := H
   replace H : ((piecewise_Least.f l0 l1).bind fun bt660 => (if t653 = 0 then ((piecewise_Valid.f kj4 t652).bind fun t664 => (if t664 = true then ((cohousingref05_Valid.f kj4 t652).bind fun t665 => (if t665 = true then ((cohousingref05_Reduced.f kj4 t652).bind fun t666 => (cohousinglaw05_PiecewiseReduced.j1 kj4 t649 t656 t659 bt660.1 bt660.2 t666)) else (cohousinglaw05_PiecewiseReduced.j1 kj4 t649 t656 t659 bt660.1 bt660.2 false))) else (cohousinglaw05_PiecewiseReduced.j1 kj4 t649 t656 t659 bt660.1 bt660.2 false))) else (cohousinglaw05_PiecewiseReduced.j1 kj4 t649 t656 t659 bt660.1 bt660.2 true))) = some r := H
   have A17 := mk_ A170
   clear A170
   replace H := Option.bind_eq_some_iff.mp H
   obtain ⟨⟨t660, t661⟩, A180, H⟩ := H
   replace H : (if t653 = 0 then ((piecewise_Valid.f kj4 t652).bind fun t664 => (if t664 = true then ((cohousingref05_Valid.f kj4 t652).bind fun t665 => (if t665 = true then ((cohousingref05_Reduced.f kj4 t652).bind fun t666 => (cohousinglaw05_PiecewiseReduced.j1 kj4 t649 t656 t659 t660 t661 t666)) else (cohousinglaw05_PiecewiseReduced.j1 kj4 t649 t656 t659 t660 t661 false))) else (cohousinglaw05_PiecewiseReduced.j1 kj4 t649 t656 t659 t660 t661 false))) else (cohousinglaw05_PiecewiseReduced.j1 kj4 t649 t656 t659 t660 t661 true)) = some r := H
   have A18 := mk_ A180
   clear A180
   have HC19 := mk_ H
   clear H
   go_upto_region 7 with (first | ((with_reducible refine gate_callee (f := 16) rfl ?_); refine gl_ (some 31) Try.func16 #[.slice A0 l0.length c0, .slice A1 l1.length c1] ?_; (with_reducible refine (piecewise_Add.calls _ _ l0 _ _ l1 t652 t653 _ ?side1 ?side2 ?side3 ?side4 A16.out).mono ?_); (case side1 => exact cc_ ((Kd.C_below HR0.out HB.out))); (case side2 => exact HC0.out); (case side3 => exact cc_ ((Kd.C_below HR1.out HB.out))); (case side4 => exact HC1.out); rintro e w20 ⟨v654, rfl, ho0, hb⟩; refine ⟨_, rfl, ?_⟩; have n0_ := mk_ (Kd.R_lower ho0 (below_size (bs_ HB GE648.out))); have n1_ := mk_ (blk_below (kk_ BK648) hb); have n2_ := mk_ (below_step (bs_ HB GE648.out) hb); clear BK648 HB; revert n0_ n1_ n2_; intro HO655 BK648 HB; (try clear hb); (try clear hb2); (try clear hk); (try clear hi); (try clear ho0); have hcz21_0 := bc0_ BK648.out; have hcz21_1 := bc1_ BK648.out; have hfz21_0 := blk_frozen BK648.out 0; have hfz21_1 := blk_frozen BK648.out 1) | ((with_reducible refine gate_callee (f := 19) rfl ?_); refine gl_ (some 37) Try.func19 #[.slice A0 l0.length c0, .agg #[.int .i64 a2_0, .int .i64 a2_1]] ?_; (with_reducible refine (piecewise_Scale.calls kj4 _ _ l0 a2_0 a2_1 t656 t659 _ ?side1 ?side2 A17.out).mono ?_); (case side1 => exact cc_ ((Kd.C_below HR0.out HB.out))); (case side2 => exact HC0.out); rintro e w22 ⟨v657, rfl, ho0, hb⟩; refine ⟨_, rfl, ?_⟩; have n0_ := mk_ (Kd.R_elder' (rr_ HO655) (Kd.R_base ho0) hb); have n1_ := mk_ (Kd.R_lower (Kd.R_new' ho0 (Kd.R_lt (rr_ HO655))) (below_size (bs_ HB GE648.out))); have n2_ := mk_ (blk_below (kk_ BK648) hb); have n3_ := mk_ (below_step (bs_ HB GE648.out) hb); clear HO655 BK648 HB; revert n0_ n1_ n2_ n3_; intro HO655 HO658 BK648 HB; (try clear hb); (try clear hb2); (try clear hk); (try clear hi); (try clear ho0)) | ((with_reducible refine gate_callee (f := 21) rfl ?_); refine gl_ (some 43) Try.func21 #[.slice A0 l0.length c0, .slice A1 l1.length c1] ?_; (with_reducible refine (piecewise_Least.calls _ _ l0 _ _ l1 t660 t661 _ ?side1 ?side2 ?side3 ?side4 A18.out).mono ?_); (case side1 => exact cc_ ((Kd.C_below HR0.out HB.out))); (case side2 => exact HC0.out); (case side3 => exact cc_ ((Kd.C_below HR1.out HB.out))); (case side4 => exact HC1.out); rintro e w23 ⟨v662, rfl, ho0, hb⟩; refine ⟨_, rfl, ?_⟩; have n0_ := mk_ (Kd.R_elder' (rr_ HO655) (Kd.R_base ho0) hb); have n1_ := mk_ (Kd.R_elder' (rr_ HO658) (Kd.R_base ho0) hb); have n2_ := mk_ (Kd.R_lower (Kd.R_new' (Kd.R_new' ho0 (Kd.R_lt (rr_ HO655))) (Kd.R_lt (rr_ HO658))) (below_size (bs_ HB GE648.out))); have n3_ := mk_ (blk_below (kk_ BK648) hb); have n4_ := mk_ (below_step (bs_ HB GE648.out) hb); clear HO655 HO658 BK648 HB; revert n0_ n1_ n2_ n3_ n4_; intro HO655 HO658 HO663 BK648 HB; (try clear hb); (try clear hb2); (try clear hk); (try clear hi); (try clear ho0)))
   (try simp only [Act.put, sI_, s0_, sS_])
   go_cut [14] (fun v14 wc => ∃ (kq : Nat) (x14_18 : Bool), v14 = .bool x14_18 ∧ Aside0 (cohousinglaw05_PiecewiseReduced.j1 kq t649 t656 t659 t660 t661 x14_18 = some r) ∧ Aside0 (kq ≤ kj4) ∧ Aside0 (Kd.R k51 51 wc w.heap.size (fun k_ => some k_ ≠ (v662 : Value).ownBlock) v657 t656) ∧ Aside0 (Kd.R k51 51 wc w.heap.size (fun k_ => some k_ ≠ (v657 : Value).ownBlock) v662 t660) ∧ Aside0 (wc.heap[gb648]? = some (.cells #[.int .i64 a2_0, .int .i64 a2_1] 24 (0, 0))) ∧ Aside0 (Below w.heap.size w wc))
   case first =>
    have H := HC19.out
    clear HC19
    by_cases c24 : t653 = 0
    rotate_left
    ·rw [if_neg c24] at H
     have c24b0 : (t653 == 0) = false := beq_eq_false_iff_ne.mpr c24
     have c24b1 : (t653 != 0) = true := bne_iff_ne.mpr c24
     (first | rw [c24b0] | (simp only [i64_w, i32_w]; rw [c24b0]) | skip)
     have H' := mk_ H
     clear H
     go_wp2
     go_meet
     case rel => exact ⟨_, (true), sd_, H', ⟨by have := HJ4.out; first | omega | exact Nat.le_refl _⟩, ⟨by (with_reducible repeat (first | apply Kd.R_alloc | apply Kd.R_drewN | apply Kd.R_drew)); exact Kd.R_mono HO658.out (fun _ hk => hk.2)⟩, ⟨by (with_reducible repeat (first | apply Kd.R_alloc | apply Kd.R_drewN | apply Kd.R_drew)); exact Kd.R_mono HO663.out (fun _ hk => hk.2)⟩, ⟨kk_ BK648⟩, ⟨bs1_ HB GE648⟩⟩
    rw [if_pos c24] at H
    have c24b0 : (t653 == 0) = true := beq_iff_eq.mpr c24
    have c24b1 : (t653 != 0) = false := bne_eq_false_iff_eq.mpr c24
    clear c24
    (first | rw [c24b0] | (simp only [i64_w, i32_w]; rw [c24b0]) | skip)
    replace H := Option.bind_eq_some_iff.mp H
    obtain ⟨t664, A250, H⟩ := H
    replace H : (if t664 = true then ((cohousingref05_Valid.f kj4 t652).bind fun t665 => (if t665 = true then ((cohousingref05_Reduced.f kj4 t652).bind fun t666 => (cohousinglaw05_PiecewiseReduced.j1 kj4 t649 t656 t659 t660 t661 t666)) else (cohousinglaw05_PiecewiseReduced.j1 kj4 t649 t656 t659 t660 t661 false))) else (cohousinglaw05_PiecewiseReduced.j1 kj4 t649 t656 t659 t660 t661 false)) = some r := H
    have A25 := mk_ A250
    clear A250
    by_cases c26 : t664 = true
    rotate_left
    ·replace c26 := Bool.eq_false_iff.mpr c26
     subst c26
     have H1 : (cohousinglaw05_PiecewiseReduced.j1 kj4 t649 t656 t659 t660 t661 false) = some r := by rw [if_neg (show ¬ (false = true) by decide)] at H; exact H
     clear H
     have H := H1
     clear H1
     have H' := mk_ H
     clear H
     obtain ⟨Ao37, co37, eo37⟩ := Kd.R_slice HO655.out
     subst eo37
     go_wp2_with (first | (go_at_call 14; (with_reducible refine (piecewise_Valid.calls kj4 _ _ t652 false _ ?side1 ?side2 A25.out).mono ?_); (case side1 => exact cc_ ((Kd.R_reads' HO655.out).2.2)); (case side2 => exact (Kd.R_reads' HO655.out).2.1); rintro e w38 ⟨rfl, hb⟩; have n0_ := mk_ (Kd.R_below (rr_ HO655) hb); have n1_ := mk_ (Kd.R_below (rr_ HO658) hb); have n2_ := mk_ (Kd.R_below (rr_ HO663) hb); have n3_ := mk_ (blk_below (kk_ BK648) hb); have n4_ := mk_ (below_step (bs_ HB GE648.out) hb); clear HO655 HO658 HO663 BK648 HB; revert n0_ n1_ n2_ n3_ n4_; intro HO655 HO658 HO663 BK648 HB; (try clear hb); (try clear hb2); (try clear hk); (try clear hi)))
     go_meet
     case rel => exact ⟨_, (false), sd_, H', ⟨by have := HJ4.out; first | omega | exact Nat.le_refl _⟩, ⟨by (with_reducible repeat (first | apply Kd.R_alloc | apply Kd.R_drewN | apply Kd.R_drew)); exact Kd.R_mono HO658.out (fun _ hk => hk.2)⟩, ⟨by (with_reducible repeat (first | apply Kd.R_alloc | apply Kd.R_drewN | apply Kd.R_drew)); exact Kd.R_mono HO663.out (fun _ hk => hk.2)⟩, ⟨kk_ BK648⟩, ⟨bs1_ HB GE648⟩⟩
    subst c26
    have H1 : ((cohousingref05_Valid.f kj4 t652).bind fun t665 => (if t665 = true then ((cohousingref05_Reduced.f kj4 t652).bind fun t666 => (cohousinglaw05_PiecewiseReduced.j1 kj4 t649 t656 t659 t660 t661 t666)) else (cohousinglaw05_PiecewiseReduced.j1 kj4 t649 t656 t659 t660 t661 false))) = some r := by rw [if_pos rfl] at H; exact H
    clear H
    have H := H1
    clear H1
    replace H := Option.bind_eq_some_iff.mp H
    obtain ⟨t665, A270, H⟩ := H
    replace H : (if t665 = true then ((cohousingref05_Reduced.f kj4 t652).bind fun t666 => (cohousinglaw05_PiecewiseReduced.j1 kj4 t649 t656 t659 t660 t661 t666)) else (cohousinglaw05_PiecewiseReduced.j1 kj4 t649 t656 t659 t660 t661 false)) = some r := H
    have A27 := mk_ A270
    clear A270
    by_cases c28 : t665 = true
    rotate_left
    ·replace c28 := Bool.eq_false_iff.mpr c28
     subst c28
     have H1 : (cohousinglaw05_PiecewiseReduced.j1 kj4 t649 t656 t659 t660 t661 false) = some r := by rw [if_neg (show ¬ (false = true) by decide)] at H; exact H
     clear H
     have H := H1
     clear H1
     have H' := mk_ H
     clear H
     obtain ⟨Ao34, co34, eo34⟩ := Kd.R_slice HO655.out
     subst eo34
     go_wp2_with (first | (go_at_call 14; (with_reducible refine (piecewise_Valid.calls kj4 _ _ t652 true _ ?side1 ?side2 A25.out).mono ?_); (case side1 => exact cc_ ((Kd.R_reads' HO655.out).2.2)); (case side2 => exact (Kd.R_reads' HO655.out).2.1); rintro e w35 ⟨rfl, hb⟩; have n0_ := mk_ (Kd.R_below (rr_ HO655) hb); have n1_ := mk_ (Kd.R_below (rr_ HO658) hb); have n2_ := mk_ (Kd.R_below (rr_ HO663) hb); have n3_ := mk_ (blk_below (kk_ BK648) hb); have n4_ := mk_ (below_step (bs_ HB GE648.out) hb); clear HO655 HO658 HO663 BK648 HB; revert n0_ n1_ n2_ n3_ n4_; intro HO655 HO658 HO663 BK648 HB; (try clear hb); (try clear hb2); (try clear hk); (try clear hi)) | (go_at_call 15; (with_reducible refine (cohousingref05_Valid.calls kj4 _ _ t652 false _ ?side1 ?side2 A27.out).mono ?_); (case side1 => exact cc_ ((Kd.R_reads' HO655.out).2.2)); (case side2 => exact (Kd.R_reads' HO655.out).2.1); rintro e w36 ⟨rfl, hb⟩; have n0_ := mk_ (Kd.R_below (rr_ HO655) hb); have n1_ := mk_ (Kd.R_below (rr_ HO658) hb); have n2_ := mk_ (Kd.R_below (rr_ HO663) hb); have n3_ := mk_ (blk_below (kk_ BK648) hb); have n4_ := mk_ (below_step (bs_ HB GE648.out) hb); clear HO655 HO658 HO663 BK648 HB; revert n0_ n1_ n2_ n3_ n4_; intro HO655 HO658 HO663 BK648 HB; (try clear hb); (try clear hb2); (try clear hk); (try clear hi)))
     go_meet
     case rel => exact ⟨_, (false), sd_, H', ⟨by have := HJ4.out; first | omega | exact Nat.le_refl _⟩, ⟨by (with_reducible repeat (first | apply Kd.R_alloc | apply Kd.R_drewN | apply Kd.R_drew)); exact Kd.R_mono HO658.out (fun _ hk => hk.2)⟩, ⟨by (with_reducible repeat (first | apply Kd.R_alloc | apply Kd.R_drewN | apply Kd.R_drew)); exact Kd.R_mono HO663.out (fun _ hk => hk.2)⟩, ⟨kk_ BK648⟩, ⟨bs1_ HB GE648⟩⟩
    subst c28
    have H1 : ((cohousingref05_Reduced.f kj4 t652).bind fun t666 => (cohousinglaw05_PiecewiseReduced.j1 kj4 t649 t656 t659 t660 t661 t666)) = some r := by rw [if_pos rfl] at H; exact H
    clear H
    have H := H1
    clear H1
    replace H := Option.bind_eq_some_iff.mp H
    obtain ⟨t666, A290, H⟩ := H
    replace H : (cohousinglaw05_PiecewiseReduced.j1 kj4 t649 t656 t659 t660 t661 t666) = some r := H
    have A29 := mk_ A290
    clear A290
    have H' := mk_ H
    clear H
    obtain ⟨Ao30, co30, eo30⟩ := Kd.R_slice HO655.out
    subst eo30
    go_wp2_with (first | (go_at_call 14; (with_reducible refine (piecewise_Valid.calls kj4 _ _ t652 true _ ?side1 ?side2 A25.out).mono ?_); (case side1 => exact cc_ ((Kd.R_reads' HO655.out).2.2)); (case side2 => exact (Kd.R_reads' HO655.out).2.1); rintro e w31 ⟨rfl, hb⟩; have n0_ := mk_ (Kd.R_below (rr_ HO655) hb); have n1_ := mk_ (Kd.R_below (rr_ HO658) hb); have n2_ := mk_ (Kd.R_below (rr_ HO663) hb); have n3_ := mk_ (blk_below (kk_ BK648) hb); have n4_ := mk_ (below_step (bs_ HB GE648.out) hb); clear HO655 HO658 HO663 BK648 HB; revert n0_ n1_ n2_ n3_ n4_; intro HO655 HO658 HO663 BK648 HB; (try clear hb); (try clear hb2); (try clear hk); (try clear hi)) | (go_at_call 15; (with_reducible refine (cohousingref05_Valid.calls kj4 _ _ t652 true _ ?side1 ?side2 A27.out).mono ?_); (case side1 => exact cc_ ((Kd.R_reads' HO655.out).2.2)); (case side2 => exact (Kd.R_reads' HO655.out).2.1); rintro e w32 ⟨rfl, hb⟩; have n0_ := mk_ (Kd.R_below (rr_ HO655) hb); have n1_ := mk_ (Kd.R_below (rr_ HO658) hb); have n2_ := mk_ (Kd.R_below (rr_ HO663) hb); have n3_ := mk_ (blk_below (kk_ BK648) hb); have n4_ := mk_ (below_step (bs_ HB GE648.out) hb); clear HO655 HO658 HO663 BK648 HB; revert n0_ n1_ n2_ n3_ n4_; intro HO655 HO658 HO663 BK648 HB; (try clear hb); (try clear hb2); (try clear hk); (try clear hi)) | (go_at_call 31; (with_reducible refine (cohousingref05_Reduced.calls kj4 _ _ t652 t666 _ ?side1 ?side2 A29.out).mono ?_); (case side1 => exact cc_ ((Kd.R_reads' HO655.out).2.2)); (case side2 => exact (Kd.R_reads' HO655.out).2.1); rintro e w33 ⟨rfl, hb⟩; have n0_ := mk_ (Kd.R_below (rr_ HO655) hb); have n1_ := mk_ (Kd.R_below (rr_ HO658) hb); have n2_ := mk_ (Kd.R_below (rr_ HO663) hb); have n3_ := mk_ (blk_below (kk_ BK648) hb); have n4_ := mk_ (below_step (bs_ HB GE648.out) hb); clear HO655 HO658 HO663 BK648 HB; revert n0_ n1_ n2_ n3_ n4_; intro HO655 HO658 HO663 BK648 HB; (try clear hb); (try clear hb2); (try clear hk); (try clear hi)))
    go_meet
    case rel => exact ⟨_, (t666), sd_, H', ⟨by have := HJ4.out; first | omega | exact Nat.le_refl _⟩, ⟨by (with_reducible repeat (first | apply Kd.R_alloc | apply Kd.R_drewN | apply Kd.R_drew)); exact Kd.R_mono HO658.out (fun _ hk => hk.2)⟩, ⟨by (with_reducible repeat (first | apply Kd.R_alloc | apply Kd.R_drewN | apply Kd.R_drew)); exact Kd.R_mono HO663.out (fun _ hk => hk.2)⟩, ⟨kk_ BK648⟩, ⟨bs1_ HB GE648⟩⟩
   case rest =>
    clear HC19
    try clear c1; try clear c2; try clear p2; try clear c8; try clear c9; try clear c10; try clear c15; try clear c16; try clear c19; try clear c21; try clear c24; try clear c24b0; try clear c24b1; try clear c25; try clear c26; try clear c28; try clear hcz12_0; try clear hcz12_1; try clear hcz21_0; try clear hcz21_1; try clear hfz12_0; try clear hfz12_1; try clear hfz21_0; try clear hfz21_1; try clear p2
    obtain ⟨kq, x14_18, rfl, HA, HJ18, HO_10, HO_12, BK648, HB⟩ := hcut
    cases kq with
    | zero => exact absurd HA.out (by simp [cohousinglaw05_PiecewiseReduced.j1])
    | succ kj18 =>
     have H := HA.out
     clear HA
     simp only [cohousinglaw05_PiecewiseReduced.j1] at H
     by_cases c39 : t659 = 0
     rotate_left
     ·rw [if_neg c39] at H
      have c39b0 : (t659 == 0) = false := beq_eq_false_iff_ne.mpr c39
      have c39b1 : (t659 != 0) = true := bne_iff_ne.mpr c39
      by_cases c305 : t661 = 0
      rotate_left
      ·rw [if_neg c305] at H
       have c305b0 : (t661 == 0) = false := beq_eq_false_iff_ne.mpr c305
       have c305b1 : (t661 != 0) = true := bne_iff_ne.mpr c305
       by_cases c344 : t649 = true
       rotate_left
       ·replace c344 := Bool.eq_false_iff.mpr c344
        subst c344
        have H1 : (some false) = some r := by rw [if_neg (show ¬ (false = true) by decide)] at H; exact H
        clear H
        have H := H1
        clear H1
        obtain rfl := Option.some.inj H
        go_wp2
        go_ret
        exact ⟨ew_, bs1_ HB GE648⟩
       subst c344
       have H1 : (if x14_18 = true then (some true) else (some false)) = some r := by rw [if_pos rfl] at H; exact H
       clear H
       have H := H1
       clear H1
       by_cases c345 : x14_18 = true
       ·subst c345
        have H1 : (some true) = some r := by rw [if_pos rfl] at H; exact H
        clear H
        have H := H1
        clear H1
        obtain rfl := Option.some.inj H
        go_wp2
        go_ret
        exact ⟨ew_, bs1_ HB GE648⟩
       replace c345 := Bool.eq_false_iff.mpr c345
       subst c345
       have H1 : (some false) = some r := by rw [if_neg (show ¬ (false = true) by decide)] at H; exact H
       clear H
       have H := H1
       clear H1
       obtain rfl := Option.some.inj H
       go_wp2
       go_ret
       exact ⟨ew_, bs1_ HB GE648⟩
      rw [if_pos c305] at H
      have c305b0 : (t661 == 0) = true := beq_iff_eq.mpr c305
      have c305b1 : (t661 != 0) = false := bne_eq_false_iff_eq.mpr c305
      clear c305
      replace H := Option.bind_eq_some_iff.mp H
      obtain ⟨t679, A3060, H⟩ := H
      replace H : (if t679 = true then ((cohousingref05_Valid.f kj18 t660).bind fun t680 => (if t680 = true then ((cohousingref05_Reduced.f kj18 t660).bind fun t681 => (if t649 = true then (if x14_18 = true then (some t681) else (some false)) else (some false))) else (if t649 = true then (if x14_18 = true then (some false) else (some false)) else (some false)))) else (if t649 = true then (if x14_18 = true then (some false) else (some false)) else (some false))) = some r := H
      have A306 := mk_ A3060
      clear A3060
      by_cases c307 : t679 = true
      rotate_left
      ·replace c307 := Bool.eq_false_iff.mpr c307
       subst c307
       have H1 : (if t649 = true then (if x14_18 = true then (some false) else (some false)) else (some false)) = some r := by rw [if_neg (show ¬ (false = true) by decide)] at H; exact H
       clear H
       have H := H1
       clear H1
       by_cases c336 : t649 = true
       rotate_left
       ·replace c336 := Bool.eq_false_iff.mpr c336
        subst c336
        have H1 : (some false) = some r := by rw [if_neg (show ¬ (false = true) by decide)] at H; exact H
        clear H
        have H := H1
        clear H1
        obtain rfl := Option.some.inj H
        obtain ⟨Ao342, co342, eo342⟩ := Kd.R_slice HO_12.out
        subst eo342
        go_wp2_with (first | (go_at_call 14; (with_reducible refine (piecewise_Valid.calls kj18 _ _ t660 false _ ?side1 ?side2 A306.out).mono ?_); (case side1 => exact cc_ ((Kd.R_reads' HO_12.out).2.2)); (case side2 => exact (Kd.R_reads' HO_12.out).2.1); rintro e w343 ⟨rfl, hb⟩; have n0_ := mk_ (Kd.R_below (rr_ HO_10) hb); have n1_ := mk_ (Kd.R_below (rr_ HO_12) hb); have n2_ := mk_ (blk_below (kk_ BK648) hb); have n3_ := mk_ (below_step (bs_ HB GE648.out) hb); clear HO_10 HO_12 BK648 HB; revert n0_ n1_ n2_ n3_; intro HO_10 HO_12 BK648 HB; (try clear hb); (try clear hb2); (try clear hk); (try clear hi)))
        go_ret
        exact ⟨ew_, bs1_ HB GE648⟩
       subst c336
       have H1 : (if x14_18 = true then (some false) else (some false)) = some r := by rw [if_pos rfl] at H; exact H
       clear H
       have H := H1
       clear H1
       by_cases c337 : x14_18 = true
       ·subst c337
        have H1 : (some false) = some r := by rw [if_pos rfl] at H; exact H
        clear H
        have H := H1
        clear H1
        obtain rfl := Option.some.inj H
        obtain ⟨Ao338, co338, eo338⟩ := Kd.R_slice HO_12.out
        subst eo338
        go_wp2_with (first | (go_at_call 14; (with_reducible refine (piecewise_Valid.calls kj18 _ _ t660 false _ ?side1 ?side2 A306.out).mono ?_); (case side1 => exact cc_ ((Kd.R_reads' HO_12.out).2.2)); (case side2 => exact (Kd.R_reads' HO_12.out).2.1); rintro e w339 ⟨rfl, hb⟩; have n0_ := mk_ (Kd.R_below (rr_ HO_10) hb); have n1_ := mk_ (Kd.R_below (rr_ HO_12) hb); have n2_ := mk_ (blk_below (kk_ BK648) hb); have n3_ := mk_ (below_step (bs_ HB GE648.out) hb); clear HO_10 HO_12 BK648 HB; revert n0_ n1_ n2_ n3_; intro HO_10 HO_12 BK648 HB; (try clear hb); (try clear hb2); (try clear hk); (try clear hi)))
        go_ret
        exact ⟨ew_, bs1_ HB GE648⟩
       replace c337 := Bool.eq_false_iff.mpr c337
       subst c337
       have H1 : (some false) = some r := by rw [if_neg (show ¬ (false = true) by decide)] at H; exact H
       clear H
       have H := H1
       clear H1
       obtain rfl := Option.some.inj H
       obtain ⟨Ao340, co340, eo340⟩ := Kd.R_slice HO_12.out
       subst eo340
       go_wp2_with (first | (go_at_call 14; (with_reducible refine (piecewise_Valid.calls kj18 _ _ t660 false _ ?side1 ?side2 A306.out).mono ?_); (case side1 => exact cc_ ((Kd.R_reads' HO_12.out).2.2)); (case side2 => exact (Kd.R_reads' HO_12.out).2.1); rintro e w341 ⟨rfl, hb⟩; have n0_ := mk_ (Kd.R_below (rr_ HO_10) hb); have n1_ := mk_ (Kd.R_below (rr_ HO_12) hb); have n2_ := mk_ (blk_below (kk_ BK648) hb); have n3_ := mk_ (below_step (bs_ HB GE648.out) hb); clear HO_10 HO_12 BK648 HB; revert n0_ n1_ n2_ n3_; intro HO_10 HO_12 BK648 HB; (try clear hb); (try clear hb2); (try clear hk); (try clear hi)))
       go_ret
       exact ⟨ew_, bs1_ HB GE648⟩
      subst c307
      have H1 : ((cohousingref05_Valid.f kj18 t660).bind fun t680 => (if t680 = true then ((cohousingref05_Reduced.f kj18 t660).bind fun t681 => (if t649 = true then (if x14_18 = true then (some t681) else (some false)) else (some false))) else (if t649 = true then (if x14_18 = true then (some false) else (some false)) else (some false)))) = some r := by rw [if_pos rfl] at H; exact H
      clear H
      have H := H1
      clear H1
      replace H := Option.bind_eq_some_iff.mp H
      obtain ⟨t680, A3080, H⟩ := H
      replace H : (if t680 = true then ((cohousingref05_Reduced.f kj18 t660).bind fun t681 => (if t649 = true then (if x14_18 = true then (some t681) else (some false)) else (some false))) else (if t649 = true then (if x14_18 = true then (some false) else (some false)) else (some false))) = some r := H
      have A308 := mk_ A3080
      clear A3080
      by_cases c309 : t680 = true
      rotate_left
      ·replace c309 := Bool.eq_false_iff.mpr c309
       subst c309
       have H1 : (if t649 = true then (if x14_18 = true then (some false) else (some false)) else (some false)) = some r := by rw [if_neg (show ¬ (false = true) by decide)] at H; exact H
       clear H
       have H := H1
       clear H1
       by_cases c325 : t649 = true
       rotate_left
       ·replace c325 := Bool.eq_false_iff.mpr c325
        subst c325
        have H1 : (some false) = some r := by rw [if_neg (show ¬ (false = true) by decide)] at H; exact H
        clear H
        have H := H1
        clear H1
        obtain rfl := Option.some.inj H
        obtain ⟨Ao333, co333, eo333⟩ := Kd.R_slice HO_12.out
        subst eo333
        go_wp2_with (first | (go_at_call 14; (with_reducible refine (piecewise_Valid.calls kj18 _ _ t660 true _ ?side1 ?side2 A306.out).mono ?_); (case side1 => exact cc_ ((Kd.R_reads' HO_12.out).2.2)); (case side2 => exact (Kd.R_reads' HO_12.out).2.1); rintro e w334 ⟨rfl, hb⟩; have n0_ := mk_ (Kd.R_below (rr_ HO_10) hb); have n1_ := mk_ (Kd.R_below (rr_ HO_12) hb); have n2_ := mk_ (blk_below (kk_ BK648) hb); have n3_ := mk_ (below_step (bs_ HB GE648.out) hb); clear HO_10 HO_12 BK648 HB; revert n0_ n1_ n2_ n3_; intro HO_10 HO_12 BK648 HB; (try clear hb); (try clear hb2); (try clear hk); (try clear hi)) | (go_at_call 15; (with_reducible refine (cohousingref05_Valid.calls kj18 _ _ t660 false _ ?side1 ?side2 A308.out).mono ?_); (case side1 => exact cc_ ((Kd.R_reads' HO_12.out).2.2)); (case side2 => exact (Kd.R_reads' HO_12.out).2.1); rintro e w335 ⟨rfl, hb⟩; have n0_ := mk_ (Kd.R_below (rr_ HO_10) hb); have n1_ := mk_ (Kd.R_below (rr_ HO_12) hb); have n2_ := mk_ (blk_below (kk_ BK648) hb); have n3_ := mk_ (below_step (bs_ HB GE648.out) hb); clear HO_10 HO_12 BK648 HB; revert n0_ n1_ n2_ n3_; intro HO_10 HO_12 BK648 HB; (try clear hb); (try clear hb2); (try clear hk); (try clear hi)))
        go_ret
        exact ⟨ew_, bs1_ HB GE648⟩
       subst c325
       have H1 : (if x14_18 = true then (some false) else (some false)) = some r := by rw [if_pos rfl] at H; exact H
       clear H
       have H := H1
       clear H1
       by_cases c326 : x14_18 = true
       ·subst c326
        have H1 : (some false) = some r := by rw [if_pos rfl] at H; exact H
        clear H
        have H := H1
        clear H1
        obtain rfl := Option.some.inj H
        obtain ⟨Ao327, co327, eo327⟩ := Kd.R_slice HO_12.out
        subst eo327
        go_wp2_with (first | (go_at_call 14; (with_reducible refine (piecewise_Valid.calls kj18 _ _ t660 true _ ?side1 ?side2 A306.out).mono ?_); (case side1 => exact cc_ ((Kd.R_reads' HO_12.out).2.2)); (case side2 => exact (Kd.R_reads' HO_12.out).2.1); rintro e w328 ⟨rfl, hb⟩; have n0_ := mk_ (Kd.R_below (rr_ HO_10) hb); have n1_ := mk_ (Kd.R_below (rr_ HO_12) hb); have n2_ := mk_ (blk_below (kk_ BK648) hb); have n3_ := mk_ (below_step (bs_ HB GE648.out) hb); clear HO_10 HO_12 BK648 HB; revert n0_ n1_ n2_ n3_; intro HO_10 HO_12 BK648 HB; (try clear hb); (try clear hb2); (try clear hk); (try clear hi)) | (go_at_call 15; (with_reducible refine (cohousingref05_Valid.calls kj18 _ _ t660 false _ ?side1 ?side2 A308.out).mono ?_); (case side1 => exact cc_ ((Kd.R_reads' HO_12.out).2.2)); (case side2 => exact (Kd.R_reads' HO_12.out).2.1); rintro e w329 ⟨rfl, hb⟩; have n0_ := mk_ (Kd.R_below (rr_ HO_10) hb); have n1_ := mk_ (Kd.R_below (rr_ HO_12) hb); have n2_ := mk_ (blk_below (kk_ BK648) hb); have n3_ := mk_ (below_step (bs_ HB GE648.out) hb); clear HO_10 HO_12 BK648 HB; revert n0_ n1_ n2_ n3_; intro HO_10 HO_12 BK648 HB; (try clear hb); (try clear hb2); (try clear hk); (try clear hi)))
        go_ret
        exact ⟨ew_, bs1_ HB GE648⟩
       replace c326 := Bool.eq_false_iff.mpr c326
       subst c326
       have H1 : (some false) = some r := by rw [if_neg (show ¬ (false = true) by decide)] at H; exact H
       clear H
       have H := H1
       clear H1
       obtain rfl := Option.some.inj H
       obtain ⟨Ao330, co330, eo330⟩ := Kd.R_slice HO_12.out
       subst eo330
       go_wp2_with (first | (go_at_call 14; (with_reducible refine (piecewise_Valid.calls kj18 _ _ t660 true _ ?side1 ?side2 A306.out).mono ?_); (case side1 => exact cc_ ((Kd.R_reads' HO_12.out).2.2)); (case side2 => exact (Kd.R_reads' HO_12.out).2.1); rintro e w331 ⟨rfl, hb⟩; have n0_ := mk_ (Kd.R_below (rr_ HO_10) hb); have n1_ := mk_ (Kd.R_below (rr_ HO_12) hb); have n2_ := mk_ (blk_below (kk_ BK648) hb); have n3_ := mk_ (below_step (bs_ HB GE648.out) hb); clear HO_10 HO_12 BK648 HB; revert n0_ n1_ n2_ n3_; intro HO_10 HO_12 BK648 HB; (try clear hb); (try clear hb2); (try clear hk); (try clear hi)) | (go_at_call 15; (with_reducible refine (cohousingref05_Valid.calls kj18 _ _ t660 false _ ?side1 ?side2 A308.out).mono ?_); (case side1 => exact cc_ ((Kd.R_reads' HO_12.out).2.2)); (case side2 => exact (Kd.R_reads' HO_12.out).2.1); rintro e w332 ⟨rfl, hb⟩; have n0_ := mk_ (Kd.R_below (rr_ HO_10) hb); have n1_ := mk_ (Kd.R_below (rr_ HO_12) hb); have n2_ := mk_ (blk_below (kk_ BK648) hb); have n3_ := mk_ (below_step (bs_ HB GE648.out) hb); clear HO_10 HO_12 BK648 HB; revert n0_ n1_ n2_ n3_; intro HO_10 HO_12 BK648 HB; (try clear hb); (try clear hb2); (try clear hk); (try clear hi)))
       go_ret
       exact ⟨ew_, bs1_ HB GE648⟩
      subst c309
      have H1 : ((cohousingref05_Reduced.f kj18 t660).bind fun t681 => (if t649 = true then (if x14_18 = true then (some t681) else (some false)) else (some false))) = some r := by rw [if_pos rfl] at H; exact H
      clear H
      have H := H1
      clear H1
      replace H := Option.bind_eq_some_iff.mp H
      obtain ⟨t681, A3100, H⟩ := H
      replace H : (if t649 = true then (if x14_18 = true then (some t681) else (some false)) else (some false)) = some r := H
      have A310 := mk_ A3100
      clear A3100
      by_cases c311 : t649 = true
      rotate_left
      ·replace c311 := Bool.eq_false_iff.mpr c311
       subst c311
       have H1 : (some false) = some r := by rw [if_neg (show ¬ (false = true) by decide)] at H; exact H
       clear H
       have H := H1
       clear H1
       obtain rfl := Option.some.inj H
       obtain ⟨Ao321, co321, eo321⟩ := Kd.R_slice HO_12.out
       subst eo321
       go_wp2_with (first | (go_at_call 14; (with_reducible refine (piecewise_Valid.calls kj18 _ _ t660 true _ ?side1 ?side2 A306.out).mono ?_); (case side1 => exact cc_ ((Kd.R_reads' HO_12.out).2.2)); (case side2 => exact (Kd.R_reads' HO_12.out).2.1); rintro e w322 ⟨rfl, hb⟩; have n0_ := mk_ (Kd.R_below (rr_ HO_10) hb); have n1_ := mk_ (Kd.R_below (rr_ HO_12) hb); have n2_ := mk_ (blk_below (kk_ BK648) hb); have n3_ := mk_ (below_step (bs_ HB GE648.out) hb); clear HO_10 HO_12 BK648 HB; revert n0_ n1_ n2_ n3_; intro HO_10 HO_12 BK648 HB; (try clear hb); (try clear hb2); (try clear hk); (try clear hi)) | (go_at_call 15; (with_reducible refine (cohousingref05_Valid.calls kj18 _ _ t660 true _ ?side1 ?side2 A308.out).mono ?_); (case side1 => exact cc_ ((Kd.R_reads' HO_12.out).2.2)); (case side2 => exact (Kd.R_reads' HO_12.out).2.1); rintro e w323 ⟨rfl, hb⟩; have n0_ := mk_ (Kd.R_below (rr_ HO_10) hb); have n1_ := mk_ (Kd.R_below (rr_ HO_12) hb); have n2_ := mk_ (blk_below (kk_ BK648) hb); have n3_ := mk_ (below_step (bs_ HB GE648.out) hb); clear HO_10 HO_12 BK648 HB; revert n0_ n1_ n2_ n3_; intro HO_10 HO_12 BK648 HB; (try clear hb); (try clear hb2); (try clear hk); (try clear hi)) | (go_at_call 31; (with_reducible refine (cohousingref05_Reduced.calls kj18 _ _ t660 t681 _ ?side1 ?side2 A310.out).mono ?_); (case side1 => exact cc_ ((Kd.R_reads' HO_12.out).2.2)); (case side2 => exact (Kd.R_reads' HO_12.out).2.1); rintro e w324 ⟨rfl, hb⟩; have n0_ := mk_ (Kd.R_below (rr_ HO_10) hb); have n1_ := mk_ (Kd.R_below (rr_ HO_12) hb); have n2_ := mk_ (blk_below (kk_ BK648) hb); have n3_ := mk_ (below_step (bs_ HB GE648.out) hb); clear HO_10 HO_12 BK648 HB; revert n0_ n1_ n2_ n3_; intro HO_10 HO_12 BK648 HB; (try clear hb); (try clear hb2); (try clear hk); (try clear hi)))
       go_ret
       exact ⟨ew_, bs1_ HB GE648⟩
      subst c311
      have H1 : (if x14_18 = true then (some t681) else (some false)) = some r := by rw [if_pos rfl] at H; exact H
      clear H
      have H := H1
      clear H1
      by_cases c312 : x14_18 = true
      ·subst c312
       have H1 : (some t681) = some r := by rw [if_pos rfl] at H; exact H
       clear H
       have H := H1
       clear H1
       obtain rfl := Option.some.inj H
       obtain ⟨Ao313, co313, eo313⟩ := Kd.R_slice HO_12.out
       subst eo313
       go_wp2_with (first | (go_at_call 14; (with_reducible refine (piecewise_Valid.calls kj18 _ _ t660 true _ ?side1 ?side2 A306.out).mono ?_); (case side1 => exact cc_ ((Kd.R_reads' HO_12.out).2.2)); (case side2 => exact (Kd.R_reads' HO_12.out).2.1); rintro e w314 ⟨rfl, hb⟩; have n0_ := mk_ (Kd.R_below (rr_ HO_10) hb); have n1_ := mk_ (Kd.R_below (rr_ HO_12) hb); have n2_ := mk_ (blk_below (kk_ BK648) hb); have n3_ := mk_ (below_step (bs_ HB GE648.out) hb); clear HO_10 HO_12 BK648 HB; revert n0_ n1_ n2_ n3_; intro HO_10 HO_12 BK648 HB; (try clear hb); (try clear hb2); (try clear hk); (try clear hi)) | (go_at_call 15; (with_reducible refine (cohousingref05_Valid.calls kj18 _ _ t660 true _ ?side1 ?side2 A308.out).mono ?_); (case side1 => exact cc_ ((Kd.R_reads' HO_12.out).2.2)); (case side2 => exact (Kd.R_reads' HO_12.out).2.1); rintro e w315 ⟨rfl, hb⟩; have n0_ := mk_ (Kd.R_below (rr_ HO_10) hb); have n1_ := mk_ (Kd.R_below (rr_ HO_12) hb); have n2_ := mk_ (blk_below (kk_ BK648) hb); have n3_ := mk_ (below_step (bs_ HB GE648.out) hb); clear HO_10 HO_12 BK648 HB; revert n0_ n1_ n2_ n3_; intro HO_10 HO_12 BK648 HB; (try clear hb); (try clear hb2); (try clear hk); (try clear hi)) | (go_at_call 31; (with_reducible refine (cohousingref05_Reduced.calls kj18 _ _ t660 t681 _ ?side1 ?side2 A310.out).mono ?_); (case side1 => exact cc_ ((Kd.R_reads' HO_12.out).2.2)); (case side2 => exact (Kd.R_reads' HO_12.out).2.1); rintro e w316 ⟨rfl, hb⟩; have n0_ := mk_ (Kd.R_below (rr_ HO_10) hb); have n1_ := mk_ (Kd.R_below (rr_ HO_12) hb); have n2_ := mk_ (blk_below (kk_ BK648) hb); have n3_ := mk_ (below_step (bs_ HB GE648.out) hb); clear HO_10 HO_12 BK648 HB; revert n0_ n1_ n2_ n3_; intro HO_10 HO_12 BK648 HB; (try clear hb); (try clear hb2); (try clear hk); (try clear hi)))
       go_ret
       exact ⟨ew_, bs1_ HB GE648⟩
      replace c312 := Bool.eq_false_iff.mpr c312
      subst c312
      have H1 : (some false) = some r := by rw [if_neg (show ¬ (false = true) by decide)] at H; exact H
      clear H
      have H := H1
      clear H1
      obtain rfl := Option.some.inj H
      obtain ⟨Ao317, co317, eo317⟩ := Kd.R_slice HO_12.out
      subst eo317
      go_wp2_with (first | (go_at_call 14; (with_reducible refine (piecewise_Valid.calls kj18 _ _ t660 true _ ?side1 ?side2 A306.out).mono ?_); (case side1 => exact cc_ ((Kd.R_reads' HO_12.out).2.2)); (case side2 => exact (Kd.R_reads' HO_12.out).2.1); rintro e w318 ⟨rfl, hb⟩; have n0_ := mk_ (Kd.R_below (rr_ HO_10) hb); have n1_ := mk_ (Kd.R_below (rr_ HO_12) hb); have n2_ := mk_ (blk_below (kk_ BK648) hb); have n3_ := mk_ (below_step (bs_ HB GE648.out) hb); clear HO_10 HO_12 BK648 HB; revert n0_ n1_ n2_ n3_; intro HO_10 HO_12 BK648 HB; (try clear hb); (try clear hb2); (try clear hk); (try clear hi)) | (go_at_call 15; (with_reducible refine (cohousingref05_Valid.calls kj18 _ _ t660 true _ ?side1 ?side2 A308.out).mono ?_); (case side1 => exact cc_ ((Kd.R_reads' HO_12.out).2.2)); (case side2 => exact (Kd.R_reads' HO_12.out).2.1); rintro e w319 ⟨rfl, hb⟩; have n0_ := mk_ (Kd.R_below (rr_ HO_10) hb); have n1_ := mk_ (Kd.R_below (rr_ HO_12) hb); have n2_ := mk_ (blk_below (kk_ BK648) hb); have n3_ := mk_ (below_step (bs_ HB GE648.out) hb); clear HO_10 HO_12 BK648 HB; revert n0_ n1_ n2_ n3_; intro HO_10 HO_12 BK648 HB; (try clear hb); (try clear hb2); (try clear hk); (try clear hi)) | (go_at_call 31; (with_reducible refine (cohousingref05_Reduced.calls kj18 _ _ t660 t681 _ ?side1 ?side2 A310.out).mono ?_); (case side1 => exact cc_ ((Kd.R_reads' HO_12.out).2.2)); (case side2 => exact (Kd.R_reads' HO_12.out).2.1); rintro e w320 ⟨rfl, hb⟩; have n0_ := mk_ (Kd.R_below (rr_ HO_10) hb); have n1_ := mk_ (Kd.R_below (rr_ HO_12) hb); have n2_ := mk_ (blk_below (kk_ BK648) hb); have n3_ := mk_ (below_step (bs_ HB GE648.out) hb); clear HO_10 HO_12 BK648 HB; revert n0_ n1_ n2_ n3_; intro HO_10 HO_12 BK648 HB; (try clear hb); (try clear hb2); (try clear hk); (try clear hi)))
      go_ret
      exact ⟨ew_, bs1_ HB GE648⟩
     rw [if_pos c39] at H
     have c39b0 : (t659 == 0) = true := beq_iff_eq.mpr c39
     have c39b1 : (t659 != 0) = false := bne_eq_false_iff_eq.mpr c39
     clear c39
     replace H := Option.bind_eq_some_iff.mp H
     obtain ⟨t667, A400, H⟩ := H
     replace H : (if t667 = true then ((cohousingref05_Valid.f kj18 t656).bind fun t668 => (if t668 = true then ((cohousingref05_Reduced.f kj18 t656).bind fun t669 => (if t661 = 0 then ((piecewise_Valid.f kj18 t660).bind fun t670 => (if t670 = true then ((cohousingref05_Valid.f kj18 t660).bind fun t671 => (if t671 = true then ((cohousingref05_Reduced.f kj18 t660).bind fun t672 => (if t649 = true then (if x14_18 = true then (if t669 = true then (some t672) else (some false)) else (some false)) else (some false))) else (if t649 = true then (if x14_18 = true then (if t669 = true then (some false) else (some false)) else (some false)) else (some false)))) else (if t649 = true then (if x14_18 = true then (if t669 = true then (some false) else (some false)) else (some false)) else (some false)))) else (if t649 = true then (if x14_18 = true then (if t669 = true then (some true) else (some false)) else (some false)) else (some false)))) else (if t661 = 0 then ((piecewise_Valid.f kj18 t660).bind fun t673 => (if t673 = true then ((cohousingref05_Valid.f kj18 t660).bind fun t674 => (if t674 = true then ((cohousingref05_Reduced.f kj18 t660).bind fun t675 => (if t649 = true then (if x14_18 = true then (some false) else (some false)) else (some false))) else (if t649 = true then (if x14_18 = true then (some false) else (some false)) else (some false)))) else (if t649 = true then (if x14_18 = true then (some false) else (some false)) else (some false)))) else (if t649 = true then (if x14_18 = true then (some false) else (some false)) else (some false))))) else (if t661 = 0 then ((piecewise_Valid.f kj18 t660).bind fun t676 => (if t676 = true then ((cohousingref05_Valid.f kj18 t660).bind fun t677 => (if t677 = true then ((cohousingref05_Reduced.f kj18 t660).bind fun t678 => (if t649 = true then (if x14_18 = true then (some false) else (some false)) else (some false))) else (if t649 = true then (if x14_18 = true then (some false) else (some false)) else (some false)))) else (if t649 = true then (if x14_18 = true then (some false) else (some false)) else (some false)))) else (if t649 = true then (if x14_18 = true then (some false) else (some false)) else (some false)))) = some r := H
     have A40 := mk_ A400
     clear A400
     by_cases c41 : t667 = true
     rotate_left
     ·replace c41 := Bool.eq_false_iff.mpr c41
      subst c41
      have H1 : (if t661 = 0 then ((piecewise_Valid.f kj18 t660).bind fun t676 => (if t676 = true then ((cohousingref05_Valid.f kj18 t660).bind fun t677 => (if t677 = true then ((cohousingref05_Reduced.f kj18 t660).bind fun t678 => (if t649 = true then (if x14_18 = true then (some false) else (some false)) else (some false))) else (if t649 = true then (if x14_18 = true then (some false) else (some false)) else (some false)))) else (if t649 = true then (if x14_18 = true then (some false) else (some false)) else (some false)))) else (if t649 = true then (if x14_18 = true then (some false) else (some false)) else (some false))) = some r := by rw [if_neg (show ¬ (false = true) by decide)] at H; exact H
      clear H
      have H := H1
      clear H1
      by_cases c240 : t661 = 0
      rotate_left
      ·rw [if_neg c240] at H
       have c240b0 : (t661 == 0) = false := beq_eq_false_iff_ne.mpr c240
       have c240b1 : (t661 != 0) = true := bne_iff_ne.mpr c240
       by_cases c297 : t649 = true
       rotate_left
       ·replace c297 := Bool.eq_false_iff.mpr c297
        subst c297
        have H1 : (some false) = some r := by rw [if_neg (show ¬ (false = true) by decide)] at H; exact H
        clear H
        have H := H1
        clear H1
        obtain rfl := Option.some.inj H
        obtain ⟨Ao303, co303, eo303⟩ := Kd.R_slice HO_10.out
        subst eo303
        go_wp2_with (first | (go_at_call 14; (with_reducible refine (piecewise_Valid.calls kj18 _ _ t656 false _ ?side1 ?side2 A40.out).mono ?_); (case side1 => exact cc_ ((Kd.R_reads' HO_10.out).2.2)); (case side2 => exact (Kd.R_reads' HO_10.out).2.1); rintro e w304 ⟨rfl, hb⟩; have n0_ := mk_ (Kd.R_below (rr_ HO_10) hb); have n1_ := mk_ (Kd.R_below (rr_ HO_12) hb); have n2_ := mk_ (blk_below (kk_ BK648) hb); have n3_ := mk_ (below_step (bs_ HB GE648.out) hb); clear HO_10 HO_12 BK648 HB; revert n0_ n1_ n2_ n3_; intro HO_10 HO_12 BK648 HB; (try clear hb); (try clear hb2); (try clear hk); (try clear hi)))
        go_ret
        exact ⟨ew_, bs1_ HB GE648⟩
       subst c297
       have H1 : (if x14_18 = true then (some false) else (some false)) = some r := by rw [if_pos rfl] at H; exact H
       clear H
       have H := H1
       clear H1
       by_cases c298 : x14_18 = true
       ·subst c298
        have H1 : (some false) = some r := by rw [if_pos rfl] at H; exact H
        clear H
        have H := H1
        clear H1
        obtain rfl := Option.some.inj H
        obtain ⟨Ao299, co299, eo299⟩ := Kd.R_slice HO_10.out
        subst eo299
        go_wp2_with (first | (go_at_call 14; (with_reducible refine (piecewise_Valid.calls kj18 _ _ t656 false _ ?side1 ?side2 A40.out).mono ?_); (case side1 => exact cc_ ((Kd.R_reads' HO_10.out).2.2)); (case side2 => exact (Kd.R_reads' HO_10.out).2.1); rintro e w300 ⟨rfl, hb⟩; have n0_ := mk_ (Kd.R_below (rr_ HO_10) hb); have n1_ := mk_ (Kd.R_below (rr_ HO_12) hb); have n2_ := mk_ (blk_below (kk_ BK648) hb); have n3_ := mk_ (below_step (bs_ HB GE648.out) hb); clear HO_10 HO_12 BK648 HB; revert n0_ n1_ n2_ n3_; intro HO_10 HO_12 BK648 HB; (try clear hb); (try clear hb2); (try clear hk); (try clear hi)))
        go_ret
        exact ⟨ew_, bs1_ HB GE648⟩
       replace c298 := Bool.eq_false_iff.mpr c298
       subst c298
       have H1 : (some false) = some r := by rw [if_neg (show ¬ (false = true) by decide)] at H; exact H
       clear H
       have H := H1
       clear H1
       obtain rfl := Option.some.inj H
       obtain ⟨Ao301, co301, eo301⟩ := Kd.R_slice HO_10.out
       subst eo301
       go_wp2_with (first | (go_at_call 14; (with_reducible refine (piecewise_Valid.calls kj18 _ _ t656 false _ ?side1 ?side2 A40.out).mono ?_); (case side1 => exact cc_ ((Kd.R_reads' HO_10.out).2.2)); (case side2 => exact (Kd.R_reads' HO_10.out).2.1); rintro e w302 ⟨rfl, hb⟩; have n0_ := mk_ (Kd.R_below (rr_ HO_10) hb); have n1_ := mk_ (Kd.R_below (rr_ HO_12) hb); have n2_ := mk_ (blk_below (kk_ BK648) hb); have n3_ := mk_ (below_step (bs_ HB GE648.out) hb); clear HO_10 HO_12 BK648 HB; revert n0_ n1_ n2_ n3_; intro HO_10 HO_12 BK648 HB; (try clear hb); (try clear hb2); (try clear hk); (try clear hi)))
       go_ret
       exact ⟨ew_, bs1_ HB GE648⟩
      rw [if_pos c240] at H
      have c240b0 : (t661 == 0) = true := beq_iff_eq.mpr c240
      have c240b1 : (t661 != 0) = false := bne_eq_false_iff_eq.mpr c240
      clear c240
      replace H := Option.bind_eq_some_iff.mp H
      obtain ⟨t676, A2410, H⟩ := H
      replace H : (if t676 = true then ((cohousingref05_Valid.f kj18 t660).bind fun t677 => (if t677 = true then ((cohousingref05_Reduced.f kj18 t660).bind fun t678 => (if t649 = true then (if x14_18 = true then (some false) else (some false)) else (some false))) else (if t649 = true then (if x14_18 = true then (some false) else (some false)) else (some false)))) else (if t649 = true then (if x14_18 = true then (some false) else (some false)) else (some false))) = some r := H
      have A241 := mk_ A2410
      clear A2410
      by_cases c242 : t676 = true
      rotate_left
      ·replace c242 := Bool.eq_false_iff.mpr c242
       subst c242
       have H1 : (if t649 = true then (if x14_18 = true then (some false) else (some false)) else (some false)) = some r := by rw [if_neg (show ¬ (false = true) by decide)] at H; exact H
       clear H
       have H := H1
       clear H1
       by_cases c283 : t649 = true
       rotate_left
       ·replace c283 := Bool.eq_false_iff.mpr c283
        subst c283
        have H1 : (some false) = some r := by rw [if_neg (show ¬ (false = true) by decide)] at H; exact H
        clear H
        have H := H1
        clear H1
        obtain rfl := Option.some.inj H
        obtain ⟨Ao293, co293, eo293⟩ := Kd.R_slice HO_10.out
        subst eo293
        go_wp2_with (first | (go_at_call 14; (with_reducible refine (piecewise_Valid.calls kj18 _ _ t656 false _ ?side1 ?side2 A40.out).mono ?_); (case side1 => exact cc_ ((Kd.R_reads' HO_10.out).2.2)); (case side2 => exact (Kd.R_reads' HO_10.out).2.1); rintro e w294 ⟨rfl, hb⟩; have n0_ := mk_ (Kd.R_below (rr_ HO_10) hb); have n1_ := mk_ (Kd.R_below (rr_ HO_12) hb); have n2_ := mk_ (blk_below (kk_ BK648) hb); have n3_ := mk_ (below_step (bs_ HB GE648.out) hb); clear HO_10 HO_12 BK648 HB; revert n0_ n1_ n2_ n3_; intro HO_10 HO_12 BK648 HB; (try clear hb); (try clear hb2); (try clear hk); (try clear hi); obtain ⟨Ao295, co295, eo295⟩ := Kd.R_slice HO_12.out; subst eo295) | (go_at_call 14; (with_reducible refine (piecewise_Valid.calls kj18 _ _ t660 false _ ?side1 ?side2 A241.out).mono ?_); (case side1 => exact cc_ ((Kd.R_reads' HO_12.out).2.2)); (case side2 => exact (Kd.R_reads' HO_12.out).2.1); rintro e w296 ⟨rfl, hb⟩; have n0_ := mk_ (Kd.R_below (rr_ HO_10) hb); have n1_ := mk_ (Kd.R_below (rr_ HO_12) hb); have n2_ := mk_ (blk_below (kk_ BK648) hb); have n3_ := mk_ (below_step (bs_ HB GE648.out) hb); clear HO_10 HO_12 BK648 HB; revert n0_ n1_ n2_ n3_; intro HO_10 HO_12 BK648 HB; (try clear hb); (try clear hb2); (try clear hk); (try clear hi)))
        go_ret
        exact ⟨ew_, bs1_ HB GE648⟩
       subst c283
       have H1 : (if x14_18 = true then (some false) else (some false)) = some r := by rw [if_pos rfl] at H; exact H
       clear H
       have H := H1
       clear H1
       by_cases c284 : x14_18 = true
       ·subst c284
        have H1 : (some false) = some r := by rw [if_pos rfl] at H; exact H
        clear H
        have H := H1
        clear H1
        obtain rfl := Option.some.inj H
        obtain ⟨Ao285, co285, eo285⟩ := Kd.R_slice HO_10.out
        subst eo285
        go_wp2_with (first | (go_at_call 14; (with_reducible refine (piecewise_Valid.calls kj18 _ _ t656 false _ ?side1 ?side2 A40.out).mono ?_); (case side1 => exact cc_ ((Kd.R_reads' HO_10.out).2.2)); (case side2 => exact (Kd.R_reads' HO_10.out).2.1); rintro e w286 ⟨rfl, hb⟩; have n0_ := mk_ (Kd.R_below (rr_ HO_10) hb); have n1_ := mk_ (Kd.R_below (rr_ HO_12) hb); have n2_ := mk_ (blk_below (kk_ BK648) hb); have n3_ := mk_ (below_step (bs_ HB GE648.out) hb); clear HO_10 HO_12 BK648 HB; revert n0_ n1_ n2_ n3_; intro HO_10 HO_12 BK648 HB; (try clear hb); (try clear hb2); (try clear hk); (try clear hi); obtain ⟨Ao287, co287, eo287⟩ := Kd.R_slice HO_12.out; subst eo287) | (go_at_call 14; (with_reducible refine (piecewise_Valid.calls kj18 _ _ t660 false _ ?side1 ?side2 A241.out).mono ?_); (case side1 => exact cc_ ((Kd.R_reads' HO_12.out).2.2)); (case side2 => exact (Kd.R_reads' HO_12.out).2.1); rintro e w288 ⟨rfl, hb⟩; have n0_ := mk_ (Kd.R_below (rr_ HO_10) hb); have n1_ := mk_ (Kd.R_below (rr_ HO_12) hb); have n2_ := mk_ (blk_below (kk_ BK648) hb); have n3_ := mk_ (below_step (bs_ HB GE648.out) hb); clear HO_10 HO_12 BK648 HB; revert n0_ n1_ n2_ n3_; intro HO_10 HO_12 BK648 HB; (try clear hb); (try clear hb2); (try clear hk); (try clear hi)))
        go_ret
        exact ⟨ew_, bs1_ HB GE648⟩
       replace c284 := Bool.eq_false_iff.mpr c284
       subst c284
       have H1 : (some false) = some r := by rw [if_neg (show ¬ (false = true) by decide)] at H; exact H
       clear H
       have H := H1
       clear H1
       obtain rfl := Option.some.inj H
       obtain ⟨Ao289, co289, eo289⟩ := Kd.R_slice HO_10.out
       subst eo289
       go_wp2_with (first | (go_at_call 14; (with_reducible refine (piecewise_Valid.calls kj18 _ _ t656 false _ ?side1 ?side2 A40.out).mono ?_); (case side1 => exact cc_ ((Kd.R_reads' HO_10.out).2.2)); (case side2 => exact (Kd.R_reads' HO_10.out).2.1); rintro e w290 ⟨rfl, hb⟩; have n0_ := mk_ (Kd.R_below (rr_ HO_10) hb); have n1_ := mk_ (Kd.R_below (rr_ HO_12) hb); have n2_ := mk_ (blk_below (kk_ BK648) hb); have n3_ := mk_ (below_step (bs_ HB GE648.out) hb); clear HO_10 HO_12 BK648 HB; revert n0_ n1_ n2_ n3_; intro HO_10 HO_12 BK648 HB; (try clear hb); (try clear hb2); (try clear hk); (try clear hi); obtain ⟨Ao291, co291, eo291⟩ := Kd.R_slice HO_12.out; subst eo291) | (go_at_call 14; (with_reducible refine (piecewise_Valid.calls kj18 _ _ t660 false _ ?side1 ?side2 A241.out).mono ?_); (case side1 => exact cc_ ((Kd.R_reads' HO_12.out).2.2)); (case side2 => exact (Kd.R_reads' HO_12.out).2.1); rintro e w292 ⟨rfl, hb⟩; have n0_ := mk_ (Kd.R_below (rr_ HO_10) hb); have n1_ := mk_ (Kd.R_below (rr_ HO_12) hb); have n2_ := mk_ (blk_below (kk_ BK648) hb); have n3_ := mk_ (below_step (bs_ HB GE648.out) hb); clear HO_10 HO_12 BK648 HB; revert n0_ n1_ n2_ n3_; intro HO_10 HO_12 BK648 HB; (try clear hb); (try clear hb2); (try clear hk); (try clear hi)))
       go_ret
       exact ⟨ew_, bs1_ HB GE648⟩
      subst c242
      have H1 : ((cohousingref05_Valid.f kj18 t660).bind fun t677 => (if t677 = true then ((cohousingref05_Reduced.f kj18 t660).bind fun t678 => (if t649 = true then (if x14_18 = true then (some false) else (some false)) else (some false))) else (if t649 = true then (if x14_18 = true then (some false) else (some false)) else (some false)))) = some r := by rw [if_pos rfl] at H; exact H
      clear H
      have H := H1
      clear H1
      replace H := Option.bind_eq_some_iff.mp H
      obtain ⟨t677, A2430, H⟩ := H
      replace H : (if t677 = true then ((cohousingref05_Reduced.f kj18 t660).bind fun t678 => (if t649 = true then (if x14_18 = true then (some false) else (some false)) else (some false))) else (if t649 = true then (if x14_18 = true then (some false) else (some false)) else (some false))) = some r := H
      have A243 := mk_ A2430
      clear A2430
      by_cases c244 : t677 = true
      rotate_left
      ·replace c244 := Bool.eq_false_iff.mpr c244
       subst c244
       have H1 : (if t649 = true then (if x14_18 = true then (some false) else (some false)) else (some false)) = some r := by rw [if_neg (show ¬ (false = true) by decide)] at H; exact H
       clear H
       have H := H1
       clear H1
       by_cases c266 : t649 = true
       rotate_left
       ·replace c266 := Bool.eq_false_iff.mpr c266
        subst c266
        have H1 : (some false) = some r := by rw [if_neg (show ¬ (false = true) by decide)] at H; exact H
        clear H
        have H := H1
        clear H1
        obtain rfl := Option.some.inj H
        obtain ⟨Ao278, co278, eo278⟩ := Kd.R_slice HO_10.out
        subst eo278
        go_wp2_with (first | (go_at_call 14; (with_reducible refine (piecewise_Valid.calls kj18 _ _ t656 false _ ?side1 ?side2 A40.out).mono ?_); (case side1 => exact cc_ ((Kd.R_reads' HO_10.out).2.2)); (case side2 => exact (Kd.R_reads' HO_10.out).2.1); rintro e w279 ⟨rfl, hb⟩; have n0_ := mk_ (Kd.R_below (rr_ HO_10) hb); have n1_ := mk_ (Kd.R_below (rr_ HO_12) hb); have n2_ := mk_ (blk_below (kk_ BK648) hb); have n3_ := mk_ (below_step (bs_ HB GE648.out) hb); clear HO_10 HO_12 BK648 HB; revert n0_ n1_ n2_ n3_; intro HO_10 HO_12 BK648 HB; (try clear hb); (try clear hb2); (try clear hk); (try clear hi); obtain ⟨Ao280, co280, eo280⟩ := Kd.R_slice HO_12.out; subst eo280) | (go_at_call 14; (with_reducible refine (piecewise_Valid.calls kj18 _ _ t660 true _ ?side1 ?side2 A241.out).mono ?_); (case side1 => exact cc_ ((Kd.R_reads' HO_12.out).2.2)); (case side2 => exact (Kd.R_reads' HO_12.out).2.1); rintro e w281 ⟨rfl, hb⟩; have n0_ := mk_ (Kd.R_below (rr_ HO_10) hb); have n1_ := mk_ (Kd.R_below (rr_ HO_12) hb); have n2_ := mk_ (blk_below (kk_ BK648) hb); have n3_ := mk_ (below_step (bs_ HB GE648.out) hb); clear HO_10 HO_12 BK648 HB; revert n0_ n1_ n2_ n3_; intro HO_10 HO_12 BK648 HB; (try clear hb); (try clear hb2); (try clear hk); (try clear hi)) | (go_at_call 15; (with_reducible refine (cohousingref05_Valid.calls kj18 _ _ t660 false _ ?side1 ?side2 A243.out).mono ?_); (case side1 => exact cc_ ((Kd.R_reads' HO_12.out).2.2)); (case side2 => exact (Kd.R_reads' HO_12.out).2.1); rintro e w282 ⟨rfl, hb⟩; have n0_ := mk_ (Kd.R_below (rr_ HO_10) hb); have n1_ := mk_ (Kd.R_below (rr_ HO_12) hb); have n2_ := mk_ (blk_below (kk_ BK648) hb); have n3_ := mk_ (below_step (bs_ HB GE648.out) hb); clear HO_10 HO_12 BK648 HB; revert n0_ n1_ n2_ n3_; intro HO_10 HO_12 BK648 HB; (try clear hb); (try clear hb2); (try clear hk); (try clear hi)))
        go_ret
        exact ⟨ew_, bs1_ HB GE648⟩
       subst c266
       have H1 : (if x14_18 = true then (some false) else (some false)) = some r := by rw [if_pos rfl] at H; exact H
       clear H
       have H := H1
       clear H1
       by_cases c267 : x14_18 = true
       ·subst c267
        have H1 : (some false) = some r := by rw [if_pos rfl] at H; exact H
        clear H
        have H := H1
        clear H1
        obtain rfl := Option.some.inj H
        obtain ⟨Ao268, co268, eo268⟩ := Kd.R_slice HO_10.out
        subst eo268
        go_wp2_with (first | (go_at_call 14; (with_reducible refine (piecewise_Valid.calls kj18 _ _ t656 false _ ?side1 ?side2 A40.out).mono ?_); (case side1 => exact cc_ ((Kd.R_reads' HO_10.out).2.2)); (case side2 => exact (Kd.R_reads' HO_10.out).2.1); rintro e w269 ⟨rfl, hb⟩; have n0_ := mk_ (Kd.R_below (rr_ HO_10) hb); have n1_ := mk_ (Kd.R_below (rr_ HO_12) hb); have n2_ := mk_ (blk_below (kk_ BK648) hb); have n3_ := mk_ (below_step (bs_ HB GE648.out) hb); clear HO_10 HO_12 BK648 HB; revert n0_ n1_ n2_ n3_; intro HO_10 HO_12 BK648 HB; (try clear hb); (try clear hb2); (try clear hk); (try clear hi); obtain ⟨Ao270, co270, eo270⟩ := Kd.R_slice HO_12.out; subst eo270) | (go_at_call 14; (with_reducible refine (piecewise_Valid.calls kj18 _ _ t660 true _ ?side1 ?side2 A241.out).mono ?_); (case side1 => exact cc_ ((Kd.R_reads' HO_12.out).2.2)); (case side2 => exact (Kd.R_reads' HO_12.out).2.1); rintro e w271 ⟨rfl, hb⟩; have n0_ := mk_ (Kd.R_below (rr_ HO_10) hb); have n1_ := mk_ (Kd.R_below (rr_ HO_12) hb); have n2_ := mk_ (blk_below (kk_ BK648) hb); have n3_ := mk_ (below_step (bs_ HB GE648.out) hb); clear HO_10 HO_12 BK648 HB; revert n0_ n1_ n2_ n3_; intro HO_10 HO_12 BK648 HB; (try clear hb); (try clear hb2); (try clear hk); (try clear hi)) | (go_at_call 15; (with_reducible refine (cohousingref05_Valid.calls kj18 _ _ t660 false _ ?side1 ?side2 A243.out).mono ?_); (case side1 => exact cc_ ((Kd.R_reads' HO_12.out).2.2)); (case side2 => exact (Kd.R_reads' HO_12.out).2.1); rintro e w272 ⟨rfl, hb⟩; have n0_ := mk_ (Kd.R_below (rr_ HO_10) hb); have n1_ := mk_ (Kd.R_below (rr_ HO_12) hb); have n2_ := mk_ (blk_below (kk_ BK648) hb); have n3_ := mk_ (below_step (bs_ HB GE648.out) hb); clear HO_10 HO_12 BK648 HB; revert n0_ n1_ n2_ n3_; intro HO_10 HO_12 BK648 HB; (try clear hb); (try clear hb2); (try clear hk); (try clear hi)))
        go_ret
        exact ⟨ew_, bs1_ HB GE648⟩
       replace c267 := Bool.eq_false_iff.mpr c267
       subst c267
       have H1 : (some false) = some r := by rw [if_neg (show ¬ (false = true) by decide)] at H; exact H
       clear H
       have H := H1
       clear H1
       obtain rfl := Option.some.inj H
       obtain ⟨Ao273, co273, eo273⟩ := Kd.R_slice HO_10.out
       subst eo273
       go_wp2_with (first | (go_at_call 14; (with_reducible refine (piecewise_Valid.calls kj18 _ _ t656 false _ ?side1 ?side2 A40.out).mono ?_); (case side1 => exact cc_ ((Kd.R_reads' HO_10.out).2.2)); (case side2 => exact (Kd.R_reads' HO_10.out).2.1); rintro e w274 ⟨rfl, hb⟩; have n0_ := mk_ (Kd.R_below (rr_ HO_10) hb); have n1_ := mk_ (Kd.R_below (rr_ HO_12) hb); have n2_ := mk_ (blk_below (kk_ BK648) hb); have n3_ := mk_ (below_step (bs_ HB GE648.out) hb); clear HO_10 HO_12 BK648 HB; revert n0_ n1_ n2_ n3_; intro HO_10 HO_12 BK648 HB; (try clear hb); (try clear hb2); (try clear hk); (try clear hi); obtain ⟨Ao275, co275, eo275⟩ := Kd.R_slice HO_12.out; subst eo275) | (go_at_call 14; (with_reducible refine (piecewise_Valid.calls kj18 _ _ t660 true _ ?side1 ?side2 A241.out).mono ?_); (case side1 => exact cc_ ((Kd.R_reads' HO_12.out).2.2)); (case side2 => exact (Kd.R_reads' HO_12.out).2.1); rintro e w276 ⟨rfl, hb⟩; have n0_ := mk_ (Kd.R_below (rr_ HO_10) hb); have n1_ := mk_ (Kd.R_below (rr_ HO_12) hb); have n2_ := mk_ (blk_below (kk_ BK648) hb); have n3_ := mk_ (below_step (bs_ HB GE648.out) hb); clear HO_10 HO_12 BK648 HB; revert n0_ n1_ n2_ n3_; intro HO_10 HO_12 BK648 HB; (try clear hb); (try clear hb2); (try clear hk); (try clear hi)) | (go_at_call 15; (with_reducible refine (cohousingref05_Valid.calls kj18 _ _ t660 false _ ?side1 ?side2 A243.out).mono ?_); (case side1 => exact cc_ ((Kd.R_reads' HO_12.out).2.2)); (case side2 => exact (Kd.R_reads' HO_12.out).2.1); rintro e w277 ⟨rfl, hb⟩; have n0_ := mk_ (Kd.R_below (rr_ HO_10) hb); have n1_ := mk_ (Kd.R_below (rr_ HO_12) hb); have n2_ := mk_ (blk_below (kk_ BK648) hb); have n3_ := mk_ (below_step (bs_ HB GE648.out) hb); clear HO_10 HO_12 BK648 HB; revert n0_ n1_ n2_ n3_; intro HO_10 HO_12 BK648 HB; (try clear hb); (try clear hb2); (try clear hk); (try clear hi)))
       go_ret
       exact ⟨ew_, bs1_ HB GE648⟩
      subst c244
      have H1 : ((cohousingref05_Reduced.f kj18 t660).bind fun t678 => (if t649 = true then (if x14_18 = true then (some false) else (some false)) else (some false))) = some r := by rw [if_pos rfl] at H; exact H
      clear H
      have H := H1
      clear H1
      replace H := Option.bind_eq_some_iff.mp H
      obtain ⟨t678, A2450, H⟩ := H
      replace H : (if t649 = true then (if x14_18 = true then (some false) else (some false)) else (some false)) = some r := H
      have A245 := mk_ A2450
      clear A2450
      by_cases c246 : t649 = true
      rotate_left
      ·replace c246 := Bool.eq_false_iff.mpr c246
       subst c246
       have H1 : (some false) = some r := by rw [if_neg (show ¬ (false = true) by decide)] at H; exact H
       clear H
       have H := H1
       clear H1
       obtain rfl := Option.some.inj H
       obtain ⟨Ao260, co260, eo260⟩ := Kd.R_slice HO_10.out
       subst eo260
       go_wp2_with (first | (go_at_call 14; (with_reducible refine (piecewise_Valid.calls kj18 _ _ t656 false _ ?side1 ?side2 A40.out).mono ?_); (case side1 => exact cc_ ((Kd.R_reads' HO_10.out).2.2)); (case side2 => exact (Kd.R_reads' HO_10.out).2.1); rintro e w261 ⟨rfl, hb⟩; have n0_ := mk_ (Kd.R_below (rr_ HO_10) hb); have n1_ := mk_ (Kd.R_below (rr_ HO_12) hb); have n2_ := mk_ (blk_below (kk_ BK648) hb); have n3_ := mk_ (below_step (bs_ HB GE648.out) hb); clear HO_10 HO_12 BK648 HB; revert n0_ n1_ n2_ n3_; intro HO_10 HO_12 BK648 HB; (try clear hb); (try clear hb2); (try clear hk); (try clear hi); obtain ⟨Ao262, co262, eo262⟩ := Kd.R_slice HO_12.out; subst eo262) | (go_at_call 14; (with_reducible refine (piecewise_Valid.calls kj18 _ _ t660 true _ ?side1 ?side2 A241.out).mono ?_); (case side1 => exact cc_ ((Kd.R_reads' HO_12.out).2.2)); (case side2 => exact (Kd.R_reads' HO_12.out).2.1); rintro e w263 ⟨rfl, hb⟩; have n0_ := mk_ (Kd.R_below (rr_ HO_10) hb); have n1_ := mk_ (Kd.R_below (rr_ HO_12) hb); have n2_ := mk_ (blk_below (kk_ BK648) hb); have n3_ := mk_ (below_step (bs_ HB GE648.out) hb); clear HO_10 HO_12 BK648 HB; revert n0_ n1_ n2_ n3_; intro HO_10 HO_12 BK648 HB; (try clear hb); (try clear hb2); (try clear hk); (try clear hi)) | (go_at_call 15; (with_reducible refine (cohousingref05_Valid.calls kj18 _ _ t660 true _ ?side1 ?side2 A243.out).mono ?_); (case side1 => exact cc_ ((Kd.R_reads' HO_12.out).2.2)); (case side2 => exact (Kd.R_reads' HO_12.out).2.1); rintro e w264 ⟨rfl, hb⟩; have n0_ := mk_ (Kd.R_below (rr_ HO_10) hb); have n1_ := mk_ (Kd.R_below (rr_ HO_12) hb); have n2_ := mk_ (blk_below (kk_ BK648) hb); have n3_ := mk_ (below_step (bs_ HB GE648.out) hb); clear HO_10 HO_12 BK648 HB; revert n0_ n1_ n2_ n3_; intro HO_10 HO_12 BK648 HB; (try clear hb); (try clear hb2); (try clear hk); (try clear hi)) | (go_at_call 31; (with_reducible refine (cohousingref05_Reduced.calls kj18 _ _ t660 t678 _ ?side1 ?side2 A245.out).mono ?_); (case side1 => exact cc_ ((Kd.R_reads' HO_12.out).2.2)); (case side2 => exact (Kd.R_reads' HO_12.out).2.1); rintro e w265 ⟨rfl, hb⟩; have n0_ := mk_ (Kd.R_below (rr_ HO_10) hb); have n1_ := mk_ (Kd.R_below (rr_ HO_12) hb); have n2_ := mk_ (blk_below (kk_ BK648) hb); have n3_ := mk_ (below_step (bs_ HB GE648.out) hb); clear HO_10 HO_12 BK648 HB; revert n0_ n1_ n2_ n3_; intro HO_10 HO_12 BK648 HB; (try clear hb); (try clear hb2); (try clear hk); (try clear hi)))
       go_ret
       exact ⟨ew_, bs1_ HB GE648⟩
      subst c246
      have H1 : (if x14_18 = true then (some false) else (some false)) = some r := by rw [if_pos rfl] at H; exact H
      clear H
      have H := H1
      clear H1
      by_cases c247 : x14_18 = true
      ·subst c247
       have H1 : (some false) = some r := by rw [if_pos rfl] at H; exact H
       clear H
       have H := H1
       clear H1
       obtain rfl := Option.some.inj H
       obtain ⟨Ao248, co248, eo248⟩ := Kd.R_slice HO_10.out
       subst eo248
       go_wp2_with (first | (go_at_call 14; (with_reducible refine (piecewise_Valid.calls kj18 _ _ t656 false _ ?side1 ?side2 A40.out).mono ?_); (case side1 => exact cc_ ((Kd.R_reads' HO_10.out).2.2)); (case side2 => exact (Kd.R_reads' HO_10.out).2.1); rintro e w249 ⟨rfl, hb⟩; have n0_ := mk_ (Kd.R_below (rr_ HO_10) hb); have n1_ := mk_ (Kd.R_below (rr_ HO_12) hb); have n2_ := mk_ (blk_below (kk_ BK648) hb); have n3_ := mk_ (below_step (bs_ HB GE648.out) hb); clear HO_10 HO_12 BK648 HB; revert n0_ n1_ n2_ n3_; intro HO_10 HO_12 BK648 HB; (try clear hb); (try clear hb2); (try clear hk); (try clear hi); obtain ⟨Ao250, co250, eo250⟩ := Kd.R_slice HO_12.out; subst eo250) | (go_at_call 14; (with_reducible refine (piecewise_Valid.calls kj18 _ _ t660 true _ ?side1 ?side2 A241.out).mono ?_); (case side1 => exact cc_ ((Kd.R_reads' HO_12.out).2.2)); (case side2 => exact (Kd.R_reads' HO_12.out).2.1); rintro e w251 ⟨rfl, hb⟩; have n0_ := mk_ (Kd.R_below (rr_ HO_10) hb); have n1_ := mk_ (Kd.R_below (rr_ HO_12) hb); have n2_ := mk_ (blk_below (kk_ BK648) hb); have n3_ := mk_ (below_step (bs_ HB GE648.out) hb); clear HO_10 HO_12 BK648 HB; revert n0_ n1_ n2_ n3_; intro HO_10 HO_12 BK648 HB; (try clear hb); (try clear hb2); (try clear hk); (try clear hi)) | (go_at_call 15; (with_reducible refine (cohousingref05_Valid.calls kj18 _ _ t660 true _ ?side1 ?side2 A243.out).mono ?_); (case side1 => exact cc_ ((Kd.R_reads' HO_12.out).2.2)); (case side2 => exact (Kd.R_reads' HO_12.out).2.1); rintro e w252 ⟨rfl, hb⟩; have n0_ := mk_ (Kd.R_below (rr_ HO_10) hb); have n1_ := mk_ (Kd.R_below (rr_ HO_12) hb); have n2_ := mk_ (blk_below (kk_ BK648) hb); have n3_ := mk_ (below_step (bs_ HB GE648.out) hb); clear HO_10 HO_12 BK648 HB; revert n0_ n1_ n2_ n3_; intro HO_10 HO_12 BK648 HB; (try clear hb); (try clear hb2); (try clear hk); (try clear hi)) | (go_at_call 31; (with_reducible refine (cohousingref05_Reduced.calls kj18 _ _ t660 t678 _ ?side1 ?side2 A245.out).mono ?_); (case side1 => exact cc_ ((Kd.R_reads' HO_12.out).2.2)); (case side2 => exact (Kd.R_reads' HO_12.out).2.1); rintro e w253 ⟨rfl, hb⟩; have n0_ := mk_ (Kd.R_below (rr_ HO_10) hb); have n1_ := mk_ (Kd.R_below (rr_ HO_12) hb); have n2_ := mk_ (blk_below (kk_ BK648) hb); have n3_ := mk_ (below_step (bs_ HB GE648.out) hb); clear HO_10 HO_12 BK648 HB; revert n0_ n1_ n2_ n3_; intro HO_10 HO_12 BK648 HB; (try clear hb); (try clear hb2); (try clear hk); (try clear hi)))
       go_ret
       exact ⟨ew_, bs1_ HB GE648⟩
      replace c247 := Bool.eq_false_iff.mpr c247
      subst c247
      have H1 : (some false) = some r := by rw [if_neg (show ¬ (false = true) by decide)] at H; exact H
      clear H
      have H := H1
      clear H1
      obtain rfl := Option.some.inj H
      obtain ⟨Ao254, co254, eo254⟩ := Kd.R_slice HO_10.out
      subst eo254
      go_wp2_with (first | (go_at_call 14; (with_reducible refine (piecewise_Valid.calls kj18 _ _ t656 false _ ?side1 ?side2 A40.out).mono ?_); (case side1 => exact cc_ ((Kd.R_reads' HO_10.out).2.2)); (case side2 => exact (Kd.R_reads' HO_10.out).2.1); rintro e w255 ⟨rfl, hb⟩; have n0_ := mk_ (Kd.R_below (rr_ HO_10) hb); have n1_ := mk_ (Kd.R_below (rr_ HO_12) hb); have n2_ := mk_ (blk_below (kk_ BK648) hb); have n3_ := mk_ (below_step (bs_ HB GE648.out) hb); clear HO_10 HO_12 BK648 HB; revert n0_ n1_ n2_ n3_; intro HO_10 HO_12 BK648 HB; (try clear hb); (try clear hb2); (try clear hk); (try clear hi); obtain ⟨Ao256, co256, eo256⟩ := Kd.R_slice HO_12.out; subst eo256) | (go_at_call 14; (with_reducible refine (piecewise_Valid.calls kj18 _ _ t660 true _ ?side1 ?side2 A241.out).mono ?_); (case side1 => exact cc_ ((Kd.R_reads' HO_12.out).2.2)); (case side2 => exact (Kd.R_reads' HO_12.out).2.1); rintro e w257 ⟨rfl, hb⟩; have n0_ := mk_ (Kd.R_below (rr_ HO_10) hb); have n1_ := mk_ (Kd.R_below (rr_ HO_12) hb); have n2_ := mk_ (blk_below (kk_ BK648) hb); have n3_ := mk_ (below_step (bs_ HB GE648.out) hb); clear HO_10 HO_12 BK648 HB; revert n0_ n1_ n2_ n3_; intro HO_10 HO_12 BK648 HB; (try clear hb); (try clear hb2); (try clear hk); (try clear hi)) | (go_at_call 15; (with_reducible refine (cohousingref05_Valid.calls kj18 _ _ t660 true _ ?side1 ?side2 A243.out).mono ?_); (case side1 => exact cc_ ((Kd.R_reads' HO_12.out).2.2)); (case side2 => exact (Kd.R_reads' HO_12.out).2.1); rintro e w258 ⟨rfl, hb⟩; have n0_ := mk_ (Kd.R_below (rr_ HO_10) hb); have n1_ := mk_ (Kd.R_below (rr_ HO_12) hb); have n2_ := mk_ (blk_below (kk_ BK648) hb); have n3_ := mk_ (below_step (bs_ HB GE648.out) hb); clear HO_10 HO_12 BK648 HB; revert n0_ n1_ n2_ n3_; intro HO_10 HO_12 BK648 HB; (try clear hb); (try clear hb2); (try clear hk); (try clear hi)) | (go_at_call 31; (with_reducible refine (cohousingref05_Reduced.calls kj18 _ _ t660 t678 _ ?side1 ?side2 A245.out).mono ?_); (case side1 => exact cc_ ((Kd.R_reads' HO_12.out).2.2)); (case side2 => exact (Kd.R_reads' HO_12.out).2.1); rintro e w259 ⟨rfl, hb⟩; have n0_ := mk_ (Kd.R_below (rr_ HO_10) hb); have n1_ := mk_ (Kd.R_below (rr_ HO_12) hb); have n2_ := mk_ (blk_below (kk_ BK648) hb); have n3_ := mk_ (below_step (bs_ HB GE648.out) hb); clear HO_10 HO_12 BK648 HB; revert n0_ n1_ n2_ n3_; intro HO_10 HO_12 BK648 HB; (try clear hb); (try clear hb2); (try clear hk); (try clear hi)))
      go_ret
      exact ⟨ew_, bs1_ HB GE648⟩
     subst c41
     have H1 : ((cohousingref05_Valid.f kj18 t656).bind fun t668 => (if t668 = true then ((cohousingref05_Reduced.f kj18 t656).bind fun t669 => (if t661 = 0 then ((piecewise_Valid.f kj18 t660).bind fun t670 => (if t670 = true then ((cohousingref05_Valid.f kj18 t660).bind fun t671 => (if t671 = true then ((cohousingref05_Reduced.f kj18 t660).bind fun t672 => (if t649 = true then (if x14_18 = true then (if t669 = true then (some t672) else (some false)) else (some false)) else (some false))) else (if t649 = true then (if x14_18 = true then (if t669 = true then (some false) else (some false)) else (some false)) else (some false)))) else (if t649 = true then (if x14_18 = true then (if t669 = true then (some false) else (some false)) else (some false)) else (some false)))) else (if t649 = true then (if x14_18 = true then (if t669 = true then (some true) else (some false)) else (some false)) else (some false)))) else (if t661 = 0 then ((piecewise_Valid.f kj18 t660).bind fun t673 => (if t673 = true then ((cohousingref05_Valid.f kj18 t660).bind fun t674 => (if t674 = true then ((cohousingref05_Reduced.f kj18 t660).bind fun t675 => (if t649 = true then (if x14_18 = true then (some false) else (some false)) else (some false))) else (if t649 = true then (if x14_18 = true then (some false) else (some false)) else (some false)))) else (if t649 = true then (if x14_18 = true then (some false) else (some false)) else (some false)))) else (if t649 = true then (if x14_18 = true then (some false) else (some false)) else (some false))))) = some r := by rw [if_pos rfl] at H; exact H
     clear H
     have H := H1
     clear H1
     replace H := Option.bind_eq_some_iff.mp H
     obtain ⟨t668, A420, H⟩ := H
     replace H : (if t668 = true then ((cohousingref05_Reduced.f kj18 t656).bind fun t669 => (if t661 = 0 then ((piecewise_Valid.f kj18 t660).bind fun t670 => (if t670 = true then ((cohousingref05_Valid.f kj18 t660).bind fun t671 => (if t671 = true then ((cohousingref05_Reduced.f kj18 t660).bind fun t672 => (if t649 = true then (if x14_18 = true then (if t669 = true then (some t672) else (some false)) else (some false)) else (some false))) else (if t649 = true then (if x14_18 = true then (if t669 = true then (some false) else (some false)) else (some false)) else (some false)))) else (if t649 = true then (if x14_18 = true then (if t669 = true then (some false) else (some false)) else (some false)) else (some false)))) else (if t649 = true then (if x14_18 = true then (if t669 = true then (some true) else (some false)) else (some false)) else (some false)))) else (if t661 = 0 then ((piecewise_Valid.f kj18 t660).bind fun t673 => (if t673 = true then ((cohousingref05_Valid.f kj18 t660).bind fun t674 => (if t674 = true then ((cohousingref05_Reduced.f kj18 t660).bind fun t675 => (if t649 = true then (if x14_18 = true then (some false) else (some false)) else (some false))) else (if t649 = true then (if x14_18 = true then (some false) else (some false)) else (some false)))) else (if t649 = true then (if x14_18 = true then (some false) else (some false)) else (some false)))) else (if t649 = true then (if x14_18 = true then (some false) else (some false)) else (some false)))) = some r := H
     have A42 := mk_ A420
     clear A420
     by_cases c43 : t668 = true
     rotate_left
     ·replace c43 := Bool.eq_false_iff.mpr c43
      subst c43
      have H1 : (if t661 = 0 then ((piecewise_Valid.f kj18 t660).bind fun t673 => (if t673 = true then ((cohousingref05_Valid.f kj18 t660).bind fun t674 => (if t674 = true then ((cohousingref05_Reduced.f kj18 t660).bind fun t675 => (if t649 = true then (if x14_18 = true then (some false) else (some false)) else (some false))) else (if t649 = true then (if x14_18 = true then (some false) else (some false)) else (some false)))) else (if t649 = true then (if x14_18 = true then (some false) else (some false)) else (some false)))) else (if t649 = true then (if x14_18 = true then (some false) else (some false)) else (some false))) = some r := by rw [if_neg (show ¬ (false = true) by decide)] at H; exact H
      clear H
      have H := H1
      clear H1
      by_cases c163 : t661 = 0
      rotate_left
      ·rw [if_neg c163] at H
       have c163b0 : (t661 == 0) = false := beq_eq_false_iff_ne.mpr c163
       have c163b1 : (t661 != 0) = true := bne_iff_ne.mpr c163
       by_cases c229 : t649 = true
       rotate_left
       ·replace c229 := Bool.eq_false_iff.mpr c229
        subst c229
        have H1 : (some false) = some r := by rw [if_neg (show ¬ (false = true) by decide)] at H; exact H
        clear H
        have H := H1
        clear H1
        obtain rfl := Option.some.inj H
        obtain ⟨Ao237, co237, eo237⟩ := Kd.R_slice HO_10.out
        subst eo237
        go_wp2_with (first | (go_at_call 14; (with_reducible refine (piecewise_Valid.calls kj18 _ _ t656 true _ ?side1 ?side2 A40.out).mono ?_); (case side1 => exact cc_ ((Kd.R_reads' HO_10.out).2.2)); (case side2 => exact (Kd.R_reads' HO_10.out).2.1); rintro e w238 ⟨rfl, hb⟩; have n0_ := mk_ (Kd.R_below (rr_ HO_10) hb); have n1_ := mk_ (Kd.R_below (rr_ HO_12) hb); have n2_ := mk_ (blk_below (kk_ BK648) hb); have n3_ := mk_ (below_step (bs_ HB GE648.out) hb); clear HO_10 HO_12 BK648 HB; revert n0_ n1_ n2_ n3_; intro HO_10 HO_12 BK648 HB; (try clear hb); (try clear hb2); (try clear hk); (try clear hi)) | (go_at_call 15; (with_reducible refine (cohousingref05_Valid.calls kj18 _ _ t656 false _ ?side1 ?side2 A42.out).mono ?_); (case side1 => exact cc_ ((Kd.R_reads' HO_10.out).2.2)); (case side2 => exact (Kd.R_reads' HO_10.out).2.1); rintro e w239 ⟨rfl, hb⟩; have n0_ := mk_ (Kd.R_below (rr_ HO_10) hb); have n1_ := mk_ (Kd.R_below (rr_ HO_12) hb); have n2_ := mk_ (blk_below (kk_ BK648) hb); have n3_ := mk_ (below_step (bs_ HB GE648.out) hb); clear HO_10 HO_12 BK648 HB; revert n0_ n1_ n2_ n3_; intro HO_10 HO_12 BK648 HB; (try clear hb); (try clear hb2); (try clear hk); (try clear hi)))
        go_ret
        exact ⟨ew_, bs1_ HB GE648⟩
       subst c229
       have H1 : (if x14_18 = true then (some false) else (some false)) = some r := by rw [if_pos rfl] at H; exact H
       clear H
       have H := H1
       clear H1
       by_cases c230 : x14_18 = true
       ·subst c230
        have H1 : (some false) = some r := by rw [if_pos rfl] at H; exact H
        clear H
        have H := H1
        clear H1
        obtain rfl := Option.some.inj H
        obtain ⟨Ao231, co231, eo231⟩ := Kd.R_slice HO_10.out
        subst eo231
        go_wp2_with (first | (go_at_call 14; (with_reducible refine (piecewise_Valid.calls kj18 _ _ t656 true _ ?side1 ?side2 A40.out).mono ?_); (case side1 => exact cc_ ((Kd.R_reads' HO_10.out).2.2)); (case side2 => exact (Kd.R_reads' HO_10.out).2.1); rintro e w232 ⟨rfl, hb⟩; have n0_ := mk_ (Kd.R_below (rr_ HO_10) hb); have n1_ := mk_ (Kd.R_below (rr_ HO_12) hb); have n2_ := mk_ (blk_below (kk_ BK648) hb); have n3_ := mk_ (below_step (bs_ HB GE648.out) hb); clear HO_10 HO_12 BK648 HB; revert n0_ n1_ n2_ n3_; intro HO_10 HO_12 BK648 HB; (try clear hb); (try clear hb2); (try clear hk); (try clear hi)) | (go_at_call 15; (with_reducible refine (cohousingref05_Valid.calls kj18 _ _ t656 false _ ?side1 ?side2 A42.out).mono ?_); (case side1 => exact cc_ ((Kd.R_reads' HO_10.out).2.2)); (case side2 => exact (Kd.R_reads' HO_10.out).2.1); rintro e w233 ⟨rfl, hb⟩; have n0_ := mk_ (Kd.R_below (rr_ HO_10) hb); have n1_ := mk_ (Kd.R_below (rr_ HO_12) hb); have n2_ := mk_ (blk_below (kk_ BK648) hb); have n3_ := mk_ (below_step (bs_ HB GE648.out) hb); clear HO_10 HO_12 BK648 HB; revert n0_ n1_ n2_ n3_; intro HO_10 HO_12 BK648 HB; (try clear hb); (try clear hb2); (try clear hk); (try clear hi)))
        go_ret
        exact ⟨ew_, bs1_ HB GE648⟩
       replace c230 := Bool.eq_false_iff.mpr c230
       subst c230
       have H1 : (some false) = some r := by rw [if_neg (show ¬ (false = true) by decide)] at H; exact H
       clear H
       have H := H1
       clear H1
       obtain rfl := Option.some.inj H
       obtain ⟨Ao234, co234, eo234⟩ := Kd.R_slice HO_10.out
       subst eo234
       go_wp2_with (first | (go_at_call 14; (with_reducible refine (piecewise_Valid.calls kj18 _ _ t656 true _ ?side1 ?side2 A40.out).mono ?_); (case side1 => exact cc_ ((Kd.R_reads' HO_10.out).2.2)); (case side2 => exact (Kd.R_reads' HO_10.out).2.1); rintro e w235 ⟨rfl, hb⟩; have n0_ := mk_ (Kd.R_below (rr_ HO_10) hb); have n1_ := mk_ (Kd.R_below (rr_ HO_12) hb); have n2_ := mk_ (blk_below (kk_ BK648) hb); have n3_ := mk_ (below_step (bs_ HB GE648.out) hb); clear HO_10 HO_12 BK648 HB; revert n0_ n1_ n2_ n3_; intro HO_10 HO_12 BK648 HB; (try clear hb); (try clear hb2); (try clear hk); (try clear hi)) | (go_at_call 15; (with_reducible refine (cohousingref05_Valid.calls kj18 _ _ t656 false _ ?side1 ?side2 A42.out).mono ?_); (case side1 => exact cc_ ((Kd.R_reads' HO_10.out).2.2)); (case side2 => exact (Kd.R_reads' HO_10.out).2.1); rintro e w236 ⟨rfl, hb⟩; have n0_ := mk_ (Kd.R_below (rr_ HO_10) hb); have n1_ := mk_ (Kd.R_below (rr_ HO_12) hb); have n2_ := mk_ (blk_below (kk_ BK648) hb); have n3_ := mk_ (below_step (bs_ HB GE648.out) hb); clear HO_10 HO_12 BK648 HB; revert n0_ n1_ n2_ n3_; intro HO_10 HO_12 BK648 HB; (try clear hb); (try clear hb2); (try clear hk); (try clear hi)))
       go_ret
       exact ⟨ew_, bs1_ HB GE648⟩
      rw [if_pos c163] at H
      have c163b0 : (t661 == 0) = true := beq_iff_eq.mpr c163
      have c163b1 : (t661 != 0) = false := bne_eq_false_iff_eq.mpr c163
      clear c163
      replace H := Option.bind_eq_some_iff.mp H
      obtain ⟨t673, A1640, H⟩ := H
      replace H : (if t673 = true then ((cohousingref05_Valid.f kj18 t660).bind fun t674 => (if t674 = true then ((cohousingref05_Reduced.f kj18 t660).bind fun t675 => (if t649 = true then (if x14_18 = true then (some false) else (some false)) else (some false))) else (if t649 = true then (if x14_18 = true then (some false) else (some false)) else (some false)))) else (if t649 = true then (if x14_18 = true then (some false) else (some false)) else (some false))) = some r := H
      have A164 := mk_ A1640
      clear A1640
      by_cases c165 : t673 = true
      rotate_left
      ·replace c165 := Bool.eq_false_iff.mpr c165
       subst c165
       have H1 : (if t649 = true then (if x14_18 = true then (some false) else (some false)) else (some false)) = some r := by rw [if_neg (show ¬ (false = true) by decide)] at H; exact H
       clear H
       have H := H1
       clear H1
       by_cases c212 : t649 = true
       rotate_left
       ·replace c212 := Bool.eq_false_iff.mpr c212
        subst c212
        have H1 : (some false) = some r := by rw [if_neg (show ¬ (false = true) by decide)] at H; exact H
        clear H
        have H := H1
        clear H1
        obtain rfl := Option.some.inj H
        obtain ⟨Ao224, co224, eo224⟩ := Kd.R_slice HO_10.out
        subst eo224
        go_wp2_with (first | (go_at_call 14; (with_reducible refine (piecewise_Valid.calls kj18 _ _ t656 true _ ?side1 ?side2 A40.out).mono ?_); (case side1 => exact cc_ ((Kd.R_reads' HO_10.out).2.2)); (case side2 => exact (Kd.R_reads' HO_10.out).2.1); rintro e w225 ⟨rfl, hb⟩; have n0_ := mk_ (Kd.R_below (rr_ HO_10) hb); have n1_ := mk_ (Kd.R_below (rr_ HO_12) hb); have n2_ := mk_ (blk_below (kk_ BK648) hb); have n3_ := mk_ (below_step (bs_ HB GE648.out) hb); clear HO_10 HO_12 BK648 HB; revert n0_ n1_ n2_ n3_; intro HO_10 HO_12 BK648 HB; (try clear hb); (try clear hb2); (try clear hk); (try clear hi)) | (go_at_call 15; (with_reducible refine (cohousingref05_Valid.calls kj18 _ _ t656 false _ ?side1 ?side2 A42.out).mono ?_); (case side1 => exact cc_ ((Kd.R_reads' HO_10.out).2.2)); (case side2 => exact (Kd.R_reads' HO_10.out).2.1); rintro e w226 ⟨rfl, hb⟩; have n0_ := mk_ (Kd.R_below (rr_ HO_10) hb); have n1_ := mk_ (Kd.R_below (rr_ HO_12) hb); have n2_ := mk_ (blk_below (kk_ BK648) hb); have n3_ := mk_ (below_step (bs_ HB GE648.out) hb); clear HO_10 HO_12 BK648 HB; revert n0_ n1_ n2_ n3_; intro HO_10 HO_12 BK648 HB; (try clear hb); (try clear hb2); (try clear hk); (try clear hi); obtain ⟨Ao227, co227, eo227⟩ := Kd.R_slice HO_12.out; subst eo227) | (go_at_call 14; (with_reducible refine (piecewise_Valid.calls kj18 _ _ t660 false _ ?side1 ?side2 A164.out).mono ?_); (case side1 => exact cc_ ((Kd.R_reads' HO_12.out).2.2)); (case side2 => exact (Kd.R_reads' HO_12.out).2.1); rintro e w228 ⟨rfl, hb⟩; have n0_ := mk_ (Kd.R_below (rr_ HO_10) hb); have n1_ := mk_ (Kd.R_below (rr_ HO_12) hb); have n2_ := mk_ (blk_below (kk_ BK648) hb); have n3_ := mk_ (below_step (bs_ HB GE648.out) hb); clear HO_10 HO_12 BK648 HB; revert n0_ n1_ n2_ n3_; intro HO_10 HO_12 BK648 HB; (try clear hb); (try clear hb2); (try clear hk); (try clear hi)))
        go_ret
        exact ⟨ew_, bs1_ HB GE648⟩
       subst c212
       have H1 : (if x14_18 = true then (some false) else (some false)) = some r := by rw [if_pos rfl] at H; exact H
       clear H
       have H := H1
       clear H1
       by_cases c213 : x14_18 = true
       ·subst c213
        have H1 : (some false) = some r := by rw [if_pos rfl] at H; exact H
        clear H
        have H := H1
        clear H1
        obtain rfl := Option.some.inj H
        obtain ⟨Ao214, co214, eo214⟩ := Kd.R_slice HO_10.out
        subst eo214
        go_wp2_with (first | (go_at_call 14; (with_reducible refine (piecewise_Valid.calls kj18 _ _ t656 true _ ?side1 ?side2 A40.out).mono ?_); (case side1 => exact cc_ ((Kd.R_reads' HO_10.out).2.2)); (case side2 => exact (Kd.R_reads' HO_10.out).2.1); rintro e w215 ⟨rfl, hb⟩; have n0_ := mk_ (Kd.R_below (rr_ HO_10) hb); have n1_ := mk_ (Kd.R_below (rr_ HO_12) hb); have n2_ := mk_ (blk_below (kk_ BK648) hb); have n3_ := mk_ (below_step (bs_ HB GE648.out) hb); clear HO_10 HO_12 BK648 HB; revert n0_ n1_ n2_ n3_; intro HO_10 HO_12 BK648 HB; (try clear hb); (try clear hb2); (try clear hk); (try clear hi)) | (go_at_call 15; (with_reducible refine (cohousingref05_Valid.calls kj18 _ _ t656 false _ ?side1 ?side2 A42.out).mono ?_); (case side1 => exact cc_ ((Kd.R_reads' HO_10.out).2.2)); (case side2 => exact (Kd.R_reads' HO_10.out).2.1); rintro e w216 ⟨rfl, hb⟩; have n0_ := mk_ (Kd.R_below (rr_ HO_10) hb); have n1_ := mk_ (Kd.R_below (rr_ HO_12) hb); have n2_ := mk_ (blk_below (kk_ BK648) hb); have n3_ := mk_ (below_step (bs_ HB GE648.out) hb); clear HO_10 HO_12 BK648 HB; revert n0_ n1_ n2_ n3_; intro HO_10 HO_12 BK648 HB; (try clear hb); (try clear hb2); (try clear hk); (try clear hi); obtain ⟨Ao217, co217, eo217⟩ := Kd.R_slice HO_12.out; subst eo217) | (go_at_call 14; (with_reducible refine (piecewise_Valid.calls kj18 _ _ t660 false _ ?side1 ?side2 A164.out).mono ?_); (case side1 => exact cc_ ((Kd.R_reads' HO_12.out).2.2)); (case side2 => exact (Kd.R_reads' HO_12.out).2.1); rintro e w218 ⟨rfl, hb⟩; have n0_ := mk_ (Kd.R_below (rr_ HO_10) hb); have n1_ := mk_ (Kd.R_below (rr_ HO_12) hb); have n2_ := mk_ (blk_below (kk_ BK648) hb); have n3_ := mk_ (below_step (bs_ HB GE648.out) hb); clear HO_10 HO_12 BK648 HB; revert n0_ n1_ n2_ n3_; intro HO_10 HO_12 BK648 HB; (try clear hb); (try clear hb2); (try clear hk); (try clear hi)))
        go_ret
        exact ⟨ew_, bs1_ HB GE648⟩
       replace c213 := Bool.eq_false_iff.mpr c213
       subst c213
       have H1 : (some false) = some r := by rw [if_neg (show ¬ (false = true) by decide)] at H; exact H
       clear H
       have H := H1
       clear H1
       obtain rfl := Option.some.inj H
       obtain ⟨Ao219, co219, eo219⟩ := Kd.R_slice HO_10.out
       subst eo219
       go_wp2_with (first | (go_at_call 14; (with_reducible refine (piecewise_Valid.calls kj18 _ _ t656 true _ ?side1 ?side2 A40.out).mono ?_); (case side1 => exact cc_ ((Kd.R_reads' HO_10.out).2.2)); (case side2 => exact (Kd.R_reads' HO_10.out).2.1); rintro e w220 ⟨rfl, hb⟩; have n0_ := mk_ (Kd.R_below (rr_ HO_10) hb); have n1_ := mk_ (Kd.R_below (rr_ HO_12) hb); have n2_ := mk_ (blk_below (kk_ BK648) hb); have n3_ := mk_ (below_step (bs_ HB GE648.out) hb); clear HO_10 HO_12 BK648 HB; revert n0_ n1_ n2_ n3_; intro HO_10 HO_12 BK648 HB; (try clear hb); (try clear hb2); (try clear hk); (try clear hi)) | (go_at_call 15; (with_reducible refine (cohousingref05_Valid.calls kj18 _ _ t656 false _ ?side1 ?side2 A42.out).mono ?_); (case side1 => exact cc_ ((Kd.R_reads' HO_10.out).2.2)); (case side2 => exact (Kd.R_reads' HO_10.out).2.1); rintro e w221 ⟨rfl, hb⟩; have n0_ := mk_ (Kd.R_below (rr_ HO_10) hb); have n1_ := mk_ (Kd.R_below (rr_ HO_12) hb); have n2_ := mk_ (blk_below (kk_ BK648) hb); have n3_ := mk_ (below_step (bs_ HB GE648.out) hb); clear HO_10 HO_12 BK648 HB; revert n0_ n1_ n2_ n3_; intro HO_10 HO_12 BK648 HB; (try clear hb); (try clear hb2); (try clear hk); (try clear hi); obtain ⟨Ao222, co222, eo222⟩ := Kd.R_slice HO_12.out; subst eo222) | (go_at_call 14; (with_reducible refine (piecewise_Valid.calls kj18 _ _ t660 false _ ?side1 ?side2 A164.out).mono ?_); (case side1 => exact cc_ ((Kd.R_reads' HO_12.out).2.2)); (case side2 => exact (Kd.R_reads' HO_12.out).2.1); rintro e w223 ⟨rfl, hb⟩; have n0_ := mk_ (Kd.R_below (rr_ HO_10) hb); have n1_ := mk_ (Kd.R_below (rr_ HO_12) hb); have n2_ := mk_ (blk_below (kk_ BK648) hb); have n3_ := mk_ (below_step (bs_ HB GE648.out) hb); clear HO_10 HO_12 BK648 HB; revert n0_ n1_ n2_ n3_; intro HO_10 HO_12 BK648 HB; (try clear hb); (try clear hb2); (try clear hk); (try clear hi)))
       go_ret
       exact ⟨ew_, bs1_ HB GE648⟩
      subst c165
      have H1 : ((cohousingref05_Valid.f kj18 t660).bind fun t674 => (if t674 = true then ((cohousingref05_Reduced.f kj18 t660).bind fun t675 => (if t649 = true then (if x14_18 = true then (some false) else (some false)) else (some false))) else (if t649 = true then (if x14_18 = true then (some false) else (some false)) else (some false)))) = some r := by rw [if_pos rfl] at H; exact H
      clear H
      have H := H1
      clear H1
      replace H := Option.bind_eq_some_iff.mp H
      obtain ⟨t674, A1660, H⟩ := H
      replace H : (if t674 = true then ((cohousingref05_Reduced.f kj18 t660).bind fun t675 => (if t649 = true then (if x14_18 = true then (some false) else (some false)) else (some false))) else (if t649 = true then (if x14_18 = true then (some false) else (some false)) else (some false))) = some r := H
      have A166 := mk_ A1660
      clear A1660
      by_cases c167 : t674 = true
      rotate_left
      ·replace c167 := Bool.eq_false_iff.mpr c167
       subst c167
       have H1 : (if t649 = true then (if x14_18 = true then (some false) else (some false)) else (some false)) = some r := by rw [if_neg (show ¬ (false = true) by decide)] at H; exact H
       clear H
       have H := H1
       clear H1
       by_cases c192 : t649 = true
       rotate_left
       ·replace c192 := Bool.eq_false_iff.mpr c192
        subst c192
        have H1 : (some false) = some r := by rw [if_neg (show ¬ (false = true) by decide)] at H; exact H
        clear H
        have H := H1
        clear H1
        obtain rfl := Option.some.inj H
        obtain ⟨Ao206, co206, eo206⟩ := Kd.R_slice HO_10.out
        subst eo206
        go_wp2_with (first | (go_at_call 14; (with_reducible refine (piecewise_Valid.calls kj18 _ _ t656 true _ ?side1 ?side2 A40.out).mono ?_); (case side1 => exact cc_ ((Kd.R_reads' HO_10.out).2.2)); (case side2 => exact (Kd.R_reads' HO_10.out).2.1); rintro e w207 ⟨rfl, hb⟩; have n0_ := mk_ (Kd.R_below (rr_ HO_10) hb); have n1_ := mk_ (Kd.R_below (rr_ HO_12) hb); have n2_ := mk_ (blk_below (kk_ BK648) hb); have n3_ := mk_ (below_step (bs_ HB GE648.out) hb); clear HO_10 HO_12 BK648 HB; revert n0_ n1_ n2_ n3_; intro HO_10 HO_12 BK648 HB; (try clear hb); (try clear hb2); (try clear hk); (try clear hi)) | (go_at_call 15; (with_reducible refine (cohousingref05_Valid.calls kj18 _ _ t656 false _ ?side1 ?side2 A42.out).mono ?_); (case side1 => exact cc_ ((Kd.R_reads' HO_10.out).2.2)); (case side2 => exact (Kd.R_reads' HO_10.out).2.1); rintro e w208 ⟨rfl, hb⟩; have n0_ := mk_ (Kd.R_below (rr_ HO_10) hb); have n1_ := mk_ (Kd.R_below (rr_ HO_12) hb); have n2_ := mk_ (blk_below (kk_ BK648) hb); have n3_ := mk_ (below_step (bs_ HB GE648.out) hb); clear HO_10 HO_12 BK648 HB; revert n0_ n1_ n2_ n3_; intro HO_10 HO_12 BK648 HB; (try clear hb); (try clear hb2); (try clear hk); (try clear hi); obtain ⟨Ao209, co209, eo209⟩ := Kd.R_slice HO_12.out; subst eo209) | (go_at_call 14; (with_reducible refine (piecewise_Valid.calls kj18 _ _ t660 true _ ?side1 ?side2 A164.out).mono ?_); (case side1 => exact cc_ ((Kd.R_reads' HO_12.out).2.2)); (case side2 => exact (Kd.R_reads' HO_12.out).2.1); rintro e w210 ⟨rfl, hb⟩; have n0_ := mk_ (Kd.R_below (rr_ HO_10) hb); have n1_ := mk_ (Kd.R_below (rr_ HO_12) hb); have n2_ := mk_ (blk_below (kk_ BK648) hb); have n3_ := mk_ (below_step (bs_ HB GE648.out) hb); clear HO_10 HO_12 BK648 HB; revert n0_ n1_ n2_ n3_; intro HO_10 HO_12 BK648 HB; (try clear hb); (try clear hb2); (try clear hk); (try clear hi)) | (go_at_call 15; (with_reducible refine (cohousingref05_Valid.calls kj18 _ _ t660 false _ ?side1 ?side2 A166.out).mono ?_); (case side1 => exact cc_ ((Kd.R_reads' HO_12.out).2.2)); (case side2 => exact (Kd.R_reads' HO_12.out).2.1); rintro e w211 ⟨rfl, hb⟩; have n0_ := mk_ (Kd.R_below (rr_ HO_10) hb); have n1_ := mk_ (Kd.R_below (rr_ HO_12) hb); have n2_ := mk_ (blk_below (kk_ BK648) hb); have n3_ := mk_ (below_step (bs_ HB GE648.out) hb); clear HO_10 HO_12 BK648 HB; revert n0_ n1_ n2_ n3_; intro HO_10 HO_12 BK648 HB; (try clear hb); (try clear hb2); (try clear hk); (try clear hi)))
        go_ret
        exact ⟨ew_, bs1_ HB GE648⟩
       subst c192
       have H1 : (if x14_18 = true then (some false) else (some false)) = some r := by rw [if_pos rfl] at H; exact H
       clear H
       have H := H1
       clear H1
       by_cases c193 : x14_18 = true
       ·subst c193
        have H1 : (some false) = some r := by rw [if_pos rfl] at H; exact H
        clear H
        have H := H1
        clear H1
        obtain rfl := Option.some.inj H
        obtain ⟨Ao194, co194, eo194⟩ := Kd.R_slice HO_10.out
        subst eo194
        go_wp2_with (first | (go_at_call 14; (with_reducible refine (piecewise_Valid.calls kj18 _ _ t656 true _ ?side1 ?side2 A40.out).mono ?_); (case side1 => exact cc_ ((Kd.R_reads' HO_10.out).2.2)); (case side2 => exact (Kd.R_reads' HO_10.out).2.1); rintro e w195 ⟨rfl, hb⟩; have n0_ := mk_ (Kd.R_below (rr_ HO_10) hb); have n1_ := mk_ (Kd.R_below (rr_ HO_12) hb); have n2_ := mk_ (blk_below (kk_ BK648) hb); have n3_ := mk_ (below_step (bs_ HB GE648.out) hb); clear HO_10 HO_12 BK648 HB; revert n0_ n1_ n2_ n3_; intro HO_10 HO_12 BK648 HB; (try clear hb); (try clear hb2); (try clear hk); (try clear hi)) | (go_at_call 15; (with_reducible refine (cohousingref05_Valid.calls kj18 _ _ t656 false _ ?side1 ?side2 A42.out).mono ?_); (case side1 => exact cc_ ((Kd.R_reads' HO_10.out).2.2)); (case side2 => exact (Kd.R_reads' HO_10.out).2.1); rintro e w196 ⟨rfl, hb⟩; have n0_ := mk_ (Kd.R_below (rr_ HO_10) hb); have n1_ := mk_ (Kd.R_below (rr_ HO_12) hb); have n2_ := mk_ (blk_below (kk_ BK648) hb); have n3_ := mk_ (below_step (bs_ HB GE648.out) hb); clear HO_10 HO_12 BK648 HB; revert n0_ n1_ n2_ n3_; intro HO_10 HO_12 BK648 HB; (try clear hb); (try clear hb2); (try clear hk); (try clear hi); obtain ⟨Ao197, co197, eo197⟩ := Kd.R_slice HO_12.out; subst eo197) | (go_at_call 14; (with_reducible refine (piecewise_Valid.calls kj18 _ _ t660 true _ ?side1 ?side2 A164.out).mono ?_); (case side1 => exact cc_ ((Kd.R_reads' HO_12.out).2.2)); (case side2 => exact (Kd.R_reads' HO_12.out).2.1); rintro e w198 ⟨rfl, hb⟩; have n0_ := mk_ (Kd.R_below (rr_ HO_10) hb); have n1_ := mk_ (Kd.R_below (rr_ HO_12) hb); have n2_ := mk_ (blk_below (kk_ BK648) hb); have n3_ := mk_ (below_step (bs_ HB GE648.out) hb); clear HO_10 HO_12 BK648 HB; revert n0_ n1_ n2_ n3_; intro HO_10 HO_12 BK648 HB; (try clear hb); (try clear hb2); (try clear hk); (try clear hi)) | (go_at_call 15; (with_reducible refine (cohousingref05_Valid.calls kj18 _ _ t660 false _ ?side1 ?side2 A166.out).mono ?_); (case side1 => exact cc_ ((Kd.R_reads' HO_12.out).2.2)); (case side2 => exact (Kd.R_reads' HO_12.out).2.1); rintro e w199 ⟨rfl, hb⟩; have n0_ := mk_ (Kd.R_below (rr_ HO_10) hb); have n1_ := mk_ (Kd.R_below (rr_ HO_12) hb); have n2_ := mk_ (blk_below (kk_ BK648) hb); have n3_ := mk_ (below_step (bs_ HB GE648.out) hb); clear HO_10 HO_12 BK648 HB; revert n0_ n1_ n2_ n3_; intro HO_10 HO_12 BK648 HB; (try clear hb); (try clear hb2); (try clear hk); (try clear hi)))
        go_ret
        exact ⟨ew_, bs1_ HB GE648⟩
       replace c193 := Bool.eq_false_iff.mpr c193
       subst c193
       have H1 : (some false) = some r := by rw [if_neg (show ¬ (false = true) by decide)] at H; exact H
       clear H
       have H := H1
       clear H1
       obtain rfl := Option.some.inj H
       obtain ⟨Ao200, co200, eo200⟩ := Kd.R_slice HO_10.out
       subst eo200
       go_wp2_with (first | (go_at_call 14; (with_reducible refine (piecewise_Valid.calls kj18 _ _ t656 true _ ?side1 ?side2 A40.out).mono ?_); (case side1 => exact cc_ ((Kd.R_reads' HO_10.out).2.2)); (case side2 => exact (Kd.R_reads' HO_10.out).2.1); rintro e w201 ⟨rfl, hb⟩; have n0_ := mk_ (Kd.R_below (rr_ HO_10) hb); have n1_ := mk_ (Kd.R_below (rr_ HO_12) hb); have n2_ := mk_ (blk_below (kk_ BK648) hb); have n3_ := mk_ (below_step (bs_ HB GE648.out) hb); clear HO_10 HO_12 BK648 HB; revert n0_ n1_ n2_ n3_; intro HO_10 HO_12 BK648 HB; (try clear hb); (try clear hb2); (try clear hk); (try clear hi)) | (go_at_call 15; (with_reducible refine (cohousingref05_Valid.calls kj18 _ _ t656 false _ ?side1 ?side2 A42.out).mono ?_); (case side1 => exact cc_ ((Kd.R_reads' HO_10.out).2.2)); (case side2 => exact (Kd.R_reads' HO_10.out).2.1); rintro e w202 ⟨rfl, hb⟩; have n0_ := mk_ (Kd.R_below (rr_ HO_10) hb); have n1_ := mk_ (Kd.R_below (rr_ HO_12) hb); have n2_ := mk_ (blk_below (kk_ BK648) hb); have n3_ := mk_ (below_step (bs_ HB GE648.out) hb); clear HO_10 HO_12 BK648 HB; revert n0_ n1_ n2_ n3_; intro HO_10 HO_12 BK648 HB; (try clear hb); (try clear hb2); (try clear hk); (try clear hi); obtain ⟨Ao203, co203, eo203⟩ := Kd.R_slice HO_12.out; subst eo203) | (go_at_call 14; (with_reducible refine (piecewise_Valid.calls kj18 _ _ t660 true _ ?side1 ?side2 A164.out).mono ?_); (case side1 => exact cc_ ((Kd.R_reads' HO_12.out).2.2)); (case side2 => exact (Kd.R_reads' HO_12.out).2.1); rintro e w204 ⟨rfl, hb⟩; have n0_ := mk_ (Kd.R_below (rr_ HO_10) hb); have n1_ := mk_ (Kd.R_below (rr_ HO_12) hb); have n2_ := mk_ (blk_below (kk_ BK648) hb); have n3_ := mk_ (below_step (bs_ HB GE648.out) hb); clear HO_10 HO_12 BK648 HB; revert n0_ n1_ n2_ n3_; intro HO_10 HO_12 BK648 HB; (try clear hb); (try clear hb2); (try clear hk); (try clear hi)) | (go_at_call 15; (with_reducible refine (cohousingref05_Valid.calls kj18 _ _ t660 false _ ?side1 ?side2 A166.out).mono ?_); (case side1 => exact cc_ ((Kd.R_reads' HO_12.out).2.2)); (case side2 => exact (Kd.R_reads' HO_12.out).2.1); rintro e w205 ⟨rfl, hb⟩; have n0_ := mk_ (Kd.R_below (rr_ HO_10) hb); have n1_ := mk_ (Kd.R_below (rr_ HO_12) hb); have n2_ := mk_ (blk_below (kk_ BK648) hb); have n3_ := mk_ (below_step (bs_ HB GE648.out) hb); clear HO_10 HO_12 BK648 HB; revert n0_ n1_ n2_ n3_; intro HO_10 HO_12 BK648 HB; (try clear hb); (try clear hb2); (try clear hk); (try clear hi)))
       go_ret
       exact ⟨ew_, bs1_ HB GE648⟩
      subst c167
      have H1 : ((cohousingref05_Reduced.f kj18 t660).bind fun t675 => (if t649 = true then (if x14_18 = true then (some false) else (some false)) else (some false))) = some r := by rw [if_pos rfl] at H; exact H
      clear H
      have H := H1
      clear H1
      replace H := Option.bind_eq_some_iff.mp H
      obtain ⟨t675, A1680, H⟩ := H
      replace H : (if t649 = true then (if x14_18 = true then (some false) else (some false)) else (some false)) = some r := H
      have A168 := mk_ A1680
      clear A1680
      by_cases c169 : t649 = true
      rotate_left
      ·replace c169 := Bool.eq_false_iff.mpr c169
       subst c169
       have H1 : (some false) = some r := by rw [if_neg (show ¬ (false = true) by decide)] at H; exact H
       clear H
       have H := H1
       clear H1
       obtain rfl := Option.some.inj H
       obtain ⟨Ao185, co185, eo185⟩ := Kd.R_slice HO_10.out
       subst eo185
       go_wp2_with (first | (go_at_call 14; (with_reducible refine (piecewise_Valid.calls kj18 _ _ t656 true _ ?side1 ?side2 A40.out).mono ?_); (case side1 => exact cc_ ((Kd.R_reads' HO_10.out).2.2)); (case side2 => exact (Kd.R_reads' HO_10.out).2.1); rintro e w186 ⟨rfl, hb⟩; have n0_ := mk_ (Kd.R_below (rr_ HO_10) hb); have n1_ := mk_ (Kd.R_below (rr_ HO_12) hb); have n2_ := mk_ (blk_below (kk_ BK648) hb); have n3_ := mk_ (below_step (bs_ HB GE648.out) hb); clear HO_10 HO_12 BK648 HB; revert n0_ n1_ n2_ n3_; intro HO_10 HO_12 BK648 HB; (try clear hb); (try clear hb2); (try clear hk); (try clear hi)) | (go_at_call 15; (with_reducible refine (cohousingref05_Valid.calls kj18 _ _ t656 false _ ?side1 ?side2 A42.out).mono ?_); (case side1 => exact cc_ ((Kd.R_reads' HO_10.out).2.2)); (case side2 => exact (Kd.R_reads' HO_10.out).2.1); rintro e w187 ⟨rfl, hb⟩; have n0_ := mk_ (Kd.R_below (rr_ HO_10) hb); have n1_ := mk_ (Kd.R_below (rr_ HO_12) hb); have n2_ := mk_ (blk_below (kk_ BK648) hb); have n3_ := mk_ (below_step (bs_ HB GE648.out) hb); clear HO_10 HO_12 BK648 HB; revert n0_ n1_ n2_ n3_; intro HO_10 HO_12 BK648 HB; (try clear hb); (try clear hb2); (try clear hk); (try clear hi); obtain ⟨Ao188, co188, eo188⟩ := Kd.R_slice HO_12.out; subst eo188) | (go_at_call 14; (with_reducible refine (piecewise_Valid.calls kj18 _ _ t660 true _ ?side1 ?side2 A164.out).mono ?_); (case side1 => exact cc_ ((Kd.R_reads' HO_12.out).2.2)); (case side2 => exact (Kd.R_reads' HO_12.out).2.1); rintro e w189 ⟨rfl, hb⟩; have n0_ := mk_ (Kd.R_below (rr_ HO_10) hb); have n1_ := mk_ (Kd.R_below (rr_ HO_12) hb); have n2_ := mk_ (blk_below (kk_ BK648) hb); have n3_ := mk_ (below_step (bs_ HB GE648.out) hb); clear HO_10 HO_12 BK648 HB; revert n0_ n1_ n2_ n3_; intro HO_10 HO_12 BK648 HB; (try clear hb); (try clear hb2); (try clear hk); (try clear hi)) | (go_at_call 15; (with_reducible refine (cohousingref05_Valid.calls kj18 _ _ t660 true _ ?side1 ?side2 A166.out).mono ?_); (case side1 => exact cc_ ((Kd.R_reads' HO_12.out).2.2)); (case side2 => exact (Kd.R_reads' HO_12.out).2.1); rintro e w190 ⟨rfl, hb⟩; have n0_ := mk_ (Kd.R_below (rr_ HO_10) hb); have n1_ := mk_ (Kd.R_below (rr_ HO_12) hb); have n2_ := mk_ (blk_below (kk_ BK648) hb); have n3_ := mk_ (below_step (bs_ HB GE648.out) hb); clear HO_10 HO_12 BK648 HB; revert n0_ n1_ n2_ n3_; intro HO_10 HO_12 BK648 HB; (try clear hb); (try clear hb2); (try clear hk); (try clear hi)) | (go_at_call 31; (with_reducible refine (cohousingref05_Reduced.calls kj18 _ _ t660 t675 _ ?side1 ?side2 A168.out).mono ?_); (case side1 => exact cc_ ((Kd.R_reads' HO_12.out).2.2)); (case side2 => exact (Kd.R_reads' HO_12.out).2.1); rintro e w191 ⟨rfl, hb⟩; have n0_ := mk_ (Kd.R_below (rr_ HO_10) hb); have n1_ := mk_ (Kd.R_below (rr_ HO_12) hb); have n2_ := mk_ (blk_below (kk_ BK648) hb); have n3_ := mk_ (below_step (bs_ HB GE648.out) hb); clear HO_10 HO_12 BK648 HB; revert n0_ n1_ n2_ n3_; intro HO_10 HO_12 BK648 HB; (try clear hb); (try clear hb2); (try clear hk); (try clear hi)))
       go_ret
       exact ⟨ew_, bs1_ HB GE648⟩
      subst c169
      have H1 : (if x14_18 = true then (some false) else (some false)) = some r := by rw [if_pos rfl] at H; exact H
      clear H
      have H := H1
      clear H1
      by_cases c170 : x14_18 = true
      ·subst c170
       have H1 : (some false) = some r := by rw [if_pos rfl] at H; exact H
       clear H
       have H := H1
       clear H1
       obtain rfl := Option.some.inj H
       obtain ⟨Ao171, co171, eo171⟩ := Kd.R_slice HO_10.out
       subst eo171
       go_wp2_with (first | (go_at_call 14; (with_reducible refine (piecewise_Valid.calls kj18 _ _ t656 true _ ?side1 ?side2 A40.out).mono ?_); (case side1 => exact cc_ ((Kd.R_reads' HO_10.out).2.2)); (case side2 => exact (Kd.R_reads' HO_10.out).2.1); rintro e w172 ⟨rfl, hb⟩; have n0_ := mk_ (Kd.R_below (rr_ HO_10) hb); have n1_ := mk_ (Kd.R_below (rr_ HO_12) hb); have n2_ := mk_ (blk_below (kk_ BK648) hb); have n3_ := mk_ (below_step (bs_ HB GE648.out) hb); clear HO_10 HO_12 BK648 HB; revert n0_ n1_ n2_ n3_; intro HO_10 HO_12 BK648 HB; (try clear hb); (try clear hb2); (try clear hk); (try clear hi)) | (go_at_call 15; (with_reducible refine (cohousingref05_Valid.calls kj18 _ _ t656 false _ ?side1 ?side2 A42.out).mono ?_); (case side1 => exact cc_ ((Kd.R_reads' HO_10.out).2.2)); (case side2 => exact (Kd.R_reads' HO_10.out).2.1); rintro e w173 ⟨rfl, hb⟩; have n0_ := mk_ (Kd.R_below (rr_ HO_10) hb); have n1_ := mk_ (Kd.R_below (rr_ HO_12) hb); have n2_ := mk_ (blk_below (kk_ BK648) hb); have n3_ := mk_ (below_step (bs_ HB GE648.out) hb); clear HO_10 HO_12 BK648 HB; revert n0_ n1_ n2_ n3_; intro HO_10 HO_12 BK648 HB; (try clear hb); (try clear hb2); (try clear hk); (try clear hi); obtain ⟨Ao174, co174, eo174⟩ := Kd.R_slice HO_12.out; subst eo174) | (go_at_call 14; (with_reducible refine (piecewise_Valid.calls kj18 _ _ t660 true _ ?side1 ?side2 A164.out).mono ?_); (case side1 => exact cc_ ((Kd.R_reads' HO_12.out).2.2)); (case side2 => exact (Kd.R_reads' HO_12.out).2.1); rintro e w175 ⟨rfl, hb⟩; have n0_ := mk_ (Kd.R_below (rr_ HO_10) hb); have n1_ := mk_ (Kd.R_below (rr_ HO_12) hb); have n2_ := mk_ (blk_below (kk_ BK648) hb); have n3_ := mk_ (below_step (bs_ HB GE648.out) hb); clear HO_10 HO_12 BK648 HB; revert n0_ n1_ n2_ n3_; intro HO_10 HO_12 BK648 HB; (try clear hb); (try clear hb2); (try clear hk); (try clear hi)) | (go_at_call 15; (with_reducible refine (cohousingref05_Valid.calls kj18 _ _ t660 true _ ?side1 ?side2 A166.out).mono ?_); (case side1 => exact cc_ ((Kd.R_reads' HO_12.out).2.2)); (case side2 => exact (Kd.R_reads' HO_12.out).2.1); rintro e w176 ⟨rfl, hb⟩; have n0_ := mk_ (Kd.R_below (rr_ HO_10) hb); have n1_ := mk_ (Kd.R_below (rr_ HO_12) hb); have n2_ := mk_ (blk_below (kk_ BK648) hb); have n3_ := mk_ (below_step (bs_ HB GE648.out) hb); clear HO_10 HO_12 BK648 HB; revert n0_ n1_ n2_ n3_; intro HO_10 HO_12 BK648 HB; (try clear hb); (try clear hb2); (try clear hk); (try clear hi)) | (go_at_call 31; (with_reducible refine (cohousingref05_Reduced.calls kj18 _ _ t660 t675 _ ?side1 ?side2 A168.out).mono ?_); (case side1 => exact cc_ ((Kd.R_reads' HO_12.out).2.2)); (case side2 => exact (Kd.R_reads' HO_12.out).2.1); rintro e w177 ⟨rfl, hb⟩; have n0_ := mk_ (Kd.R_below (rr_ HO_10) hb); have n1_ := mk_ (Kd.R_below (rr_ HO_12) hb); have n2_ := mk_ (blk_below (kk_ BK648) hb); have n3_ := mk_ (below_step (bs_ HB GE648.out) hb); clear HO_10 HO_12 BK648 HB; revert n0_ n1_ n2_ n3_; intro HO_10 HO_12 BK648 HB; (try clear hb); (try clear hb2); (try clear hk); (try clear hi)))
       go_ret
       exact ⟨ew_, bs1_ HB GE648⟩
      replace c170 := Bool.eq_false_iff.mpr c170
      subst c170
      have H1 : (some false) = some r := by rw [if_neg (show ¬ (false = true) by decide)] at H; exact H
      clear H
      have H := H1
      clear H1
      obtain rfl := Option.some.inj H
      obtain ⟨Ao178, co178, eo178⟩ := Kd.R_slice HO_10.out
      subst eo178
      go_wp2_with (first | (go_at_call 14; (with_reducible refine (piecewise_Valid.calls kj18 _ _ t656 true _ ?side1 ?side2 A40.out).mono ?_); (case side1 => exact cc_ ((Kd.R_reads' HO_10.out).2.2)); (case side2 => exact (Kd.R_reads' HO_10.out).2.1); rintro e w179 ⟨rfl, hb⟩; have n0_ := mk_ (Kd.R_below (rr_ HO_10) hb); have n1_ := mk_ (Kd.R_below (rr_ HO_12) hb); have n2_ := mk_ (blk_below (kk_ BK648) hb); have n3_ := mk_ (below_step (bs_ HB GE648.out) hb); clear HO_10 HO_12 BK648 HB; revert n0_ n1_ n2_ n3_; intro HO_10 HO_12 BK648 HB; (try clear hb); (try clear hb2); (try clear hk); (try clear hi)) | (go_at_call 15; (with_reducible refine (cohousingref05_Valid.calls kj18 _ _ t656 false _ ?side1 ?side2 A42.out).mono ?_); (case side1 => exact cc_ ((Kd.R_reads' HO_10.out).2.2)); (case side2 => exact (Kd.R_reads' HO_10.out).2.1); rintro e w180 ⟨rfl, hb⟩; have n0_ := mk_ (Kd.R_below (rr_ HO_10) hb); have n1_ := mk_ (Kd.R_below (rr_ HO_12) hb); have n2_ := mk_ (blk_below (kk_ BK648) hb); have n3_ := mk_ (below_step (bs_ HB GE648.out) hb); clear HO_10 HO_12 BK648 HB; revert n0_ n1_ n2_ n3_; intro HO_10 HO_12 BK648 HB; (try clear hb); (try clear hb2); (try clear hk); (try clear hi); obtain ⟨Ao181, co181, eo181⟩ := Kd.R_slice HO_12.out; subst eo181) | (go_at_call 14; (with_reducible refine (piecewise_Valid.calls kj18 _ _ t660 true _ ?side1 ?side2 A164.out).mono ?_); (case side1 => exact cc_ ((Kd.R_reads' HO_12.out).2.2)); (case side2 => exact (Kd.R_reads' HO_12.out).2.1); rintro e w182 ⟨rfl, hb⟩; have n0_ := mk_ (Kd.R_below (rr_ HO_10) hb); have n1_ := mk_ (Kd.R_below (rr_ HO_12) hb); have n2_ := mk_ (blk_below (kk_ BK648) hb); have n3_ := mk_ (below_step (bs_ HB GE648.out) hb); clear HO_10 HO_12 BK648 HB; revert n0_ n1_ n2_ n3_; intro HO_10 HO_12 BK648 HB; (try clear hb); (try clear hb2); (try clear hk); (try clear hi)) | (go_at_call 15; (with_reducible refine (cohousingref05_Valid.calls kj18 _ _ t660 true _ ?side1 ?side2 A166.out).mono ?_); (case side1 => exact cc_ ((Kd.R_reads' HO_12.out).2.2)); (case side2 => exact (Kd.R_reads' HO_12.out).2.1); rintro e w183 ⟨rfl, hb⟩; have n0_ := mk_ (Kd.R_below (rr_ HO_10) hb); have n1_ := mk_ (Kd.R_below (rr_ HO_12) hb); have n2_ := mk_ (blk_below (kk_ BK648) hb); have n3_ := mk_ (below_step (bs_ HB GE648.out) hb); clear HO_10 HO_12 BK648 HB; revert n0_ n1_ n2_ n3_; intro HO_10 HO_12 BK648 HB; (try clear hb); (try clear hb2); (try clear hk); (try clear hi)) | (go_at_call 31; (with_reducible refine (cohousingref05_Reduced.calls kj18 _ _ t660 t675 _ ?side1 ?side2 A168.out).mono ?_); (case side1 => exact cc_ ((Kd.R_reads' HO_12.out).2.2)); (case side2 => exact (Kd.R_reads' HO_12.out).2.1); rintro e w184 ⟨rfl, hb⟩; have n0_ := mk_ (Kd.R_below (rr_ HO_10) hb); have n1_ := mk_ (Kd.R_below (rr_ HO_12) hb); have n2_ := mk_ (blk_below (kk_ BK648) hb); have n3_ := mk_ (below_step (bs_ HB GE648.out) hb); clear HO_10 HO_12 BK648 HB; revert n0_ n1_ n2_ n3_; intro HO_10 HO_12 BK648 HB; (try clear hb); (try clear hb2); (try clear hk); (try clear hi)))
      go_ret
      exact ⟨ew_, bs1_ HB GE648⟩
     subst c43
     have H1 : ((cohousingref05_Reduced.f kj18 t656).bind fun t669 => (if t661 = 0 then ((piecewise_Valid.f kj18 t660).bind fun t670 => (if t670 = true then ((cohousingref05_Valid.f kj18 t660).bind fun t671 => (if t671 = true then ((cohousingref05_Reduced.f kj18 t660).bind fun t672 => (if t649 = true then (if x14_18 = true then (if t669 = true then (some t672) else (some false)) else (some false)) else (some false))) else (if t649 = true then (if x14_18 = true then (if t669 = true then (some false) else (some false)) else (some false)) else (some false)))) else (if t649 = true then (if x14_18 = true then (if t669 = true then (some false) else (some false)) else (some false)) else (some false)))) else (if t649 = true then (if x14_18 = true then (if t669 = true then (some true) else (some false)) else (some false)) else (some false)))) = some r := by rw [if_pos rfl] at H; exact H
     clear H
     have H := H1
     clear H1
     replace H := Option.bind_eq_some_iff.mp H
     obtain ⟨t669, A440, H⟩ := H
     replace H : (if t661 = 0 then ((piecewise_Valid.f kj18 t660).bind fun t670 => (if t670 = true then ((cohousingref05_Valid.f kj18 t660).bind fun t671 => (if t671 = true then ((cohousingref05_Reduced.f kj18 t660).bind fun t672 => (if t649 = true then (if x14_18 = true then (if t669 = true then (some t672) else (some false)) else (some false)) else (some false))) else (if t649 = true then (if x14_18 = true then (if t669 = true then (some false) else (some false)) else (some false)) else (some false)))) else (if t649 = true then (if x14_18 = true then (if t669 = true then (some false) else (some false)) else (some false)) else (some false)))) else (if t649 = true then (if x14_18 = true then (if t669 = true then (some true) else (some false)) else (some false)) else (some false))) = some r := H
     have A44 := mk_ A440
     clear A440
     by_cases c45 : t661 = 0
     rotate_left
     ·rw [if_neg c45] at H
      have c45b0 : (t661 == 0) = false := beq_eq_false_iff_ne.mpr c45
      have c45b1 : (t661 != 0) = true := bne_iff_ne.mpr c45
      by_cases c144 : t649 = true
      rotate_left
      ·replace c144 := Bool.eq_false_iff.mpr c144
       subst c144
       have H1 : (some false) = some r := by rw [if_neg (show ¬ (false = true) by decide)] at H; exact H
       clear H
       have H := H1
       clear H1
       obtain rfl := Option.some.inj H
       obtain ⟨Ao159, co159, eo159⟩ := Kd.R_slice HO_10.out
       subst eo159
       go_wp2_with (first | (go_at_call 14; (with_reducible refine (piecewise_Valid.calls kj18 _ _ t656 true _ ?side1 ?side2 A40.out).mono ?_); (case side1 => exact cc_ ((Kd.R_reads' HO_10.out).2.2)); (case side2 => exact (Kd.R_reads' HO_10.out).2.1); rintro e w160 ⟨rfl, hb⟩; have n0_ := mk_ (Kd.R_below (rr_ HO_10) hb); have n1_ := mk_ (Kd.R_below (rr_ HO_12) hb); have n2_ := mk_ (blk_below (kk_ BK648) hb); have n3_ := mk_ (below_step (bs_ HB GE648.out) hb); clear HO_10 HO_12 BK648 HB; revert n0_ n1_ n2_ n3_; intro HO_10 HO_12 BK648 HB; (try clear hb); (try clear hb2); (try clear hk); (try clear hi)) | (go_at_call 15; (with_reducible refine (cohousingref05_Valid.calls kj18 _ _ t656 true _ ?side1 ?side2 A42.out).mono ?_); (case side1 => exact cc_ ((Kd.R_reads' HO_10.out).2.2)); (case side2 => exact (Kd.R_reads' HO_10.out).2.1); rintro e w161 ⟨rfl, hb⟩; have n0_ := mk_ (Kd.R_below (rr_ HO_10) hb); have n1_ := mk_ (Kd.R_below (rr_ HO_12) hb); have n2_ := mk_ (blk_below (kk_ BK648) hb); have n3_ := mk_ (below_step (bs_ HB GE648.out) hb); clear HO_10 HO_12 BK648 HB; revert n0_ n1_ n2_ n3_; intro HO_10 HO_12 BK648 HB; (try clear hb); (try clear hb2); (try clear hk); (try clear hi)) | (go_at_call 31; (with_reducible refine (cohousingref05_Reduced.calls kj18 _ _ t656 t669 _ ?side1 ?side2 A44.out).mono ?_); (case side1 => exact cc_ ((Kd.R_reads' HO_10.out).2.2)); (case side2 => exact (Kd.R_reads' HO_10.out).2.1); rintro e w162 ⟨rfl, hb⟩; have n0_ := mk_ (Kd.R_below (rr_ HO_10) hb); have n1_ := mk_ (Kd.R_below (rr_ HO_12) hb); have n2_ := mk_ (blk_below (kk_ BK648) hb); have n3_ := mk_ (below_step (bs_ HB GE648.out) hb); clear HO_10 HO_12 BK648 HB; revert n0_ n1_ n2_ n3_; intro HO_10 HO_12 BK648 HB; (try clear hb); (try clear hb2); (try clear hk); (try clear hi)))
       go_ret
       exact ⟨ew_, bs1_ HB GE648⟩
      subst c144
      have H1 : (if x14_18 = true then (if t669 = true then (some true) else (some false)) else (some false)) = some r := by rw [if_pos rfl] at H; exact H
      clear H
      have H := H1
      clear H1
      by_cases c145 : x14_18 = true
      rotate_left
      ·replace c145 := Bool.eq_false_iff.mpr c145
       subst c145
       have H1 : (some false) = some r := by rw [if_neg (show ¬ (false = true) by decide)] at H; exact H
       clear H
       have H := H1
       clear H1
       obtain rfl := Option.some.inj H
       obtain ⟨Ao155, co155, eo155⟩ := Kd.R_slice HO_10.out
       subst eo155
       go_wp2_with (first | (go_at_call 14; (with_reducible refine (piecewise_Valid.calls kj18 _ _ t656 true _ ?side1 ?side2 A40.out).mono ?_); (case side1 => exact cc_ ((Kd.R_reads' HO_10.out).2.2)); (case side2 => exact (Kd.R_reads' HO_10.out).2.1); rintro e w156 ⟨rfl, hb⟩; have n0_ := mk_ (Kd.R_below (rr_ HO_10) hb); have n1_ := mk_ (Kd.R_below (rr_ HO_12) hb); have n2_ := mk_ (blk_below (kk_ BK648) hb); have n3_ := mk_ (below_step (bs_ HB GE648.out) hb); clear HO_10 HO_12 BK648 HB; revert n0_ n1_ n2_ n3_; intro HO_10 HO_12 BK648 HB; (try clear hb); (try clear hb2); (try clear hk); (try clear hi)) | (go_at_call 15; (with_reducible refine (cohousingref05_Valid.calls kj18 _ _ t656 true _ ?side1 ?side2 A42.out).mono ?_); (case side1 => exact cc_ ((Kd.R_reads' HO_10.out).2.2)); (case side2 => exact (Kd.R_reads' HO_10.out).2.1); rintro e w157 ⟨rfl, hb⟩; have n0_ := mk_ (Kd.R_below (rr_ HO_10) hb); have n1_ := mk_ (Kd.R_below (rr_ HO_12) hb); have n2_ := mk_ (blk_below (kk_ BK648) hb); have n3_ := mk_ (below_step (bs_ HB GE648.out) hb); clear HO_10 HO_12 BK648 HB; revert n0_ n1_ n2_ n3_; intro HO_10 HO_12 BK648 HB; (try clear hb); (try clear hb2); (try clear hk); (try clear hi)) | (go_at_call 31; (with_reducible refine (cohousingref05_Reduced.calls kj18 _ _ t656 t669 _ ?side1 ?side2 A44.out).mono ?_); (case side1 => exact cc_ ((Kd.R_reads' HO_10.out).2.2)); (case side2 => exact (Kd.R_reads' HO_10.out).2.1); rintro e w158 ⟨rfl, hb⟩; have n0_ := mk_ (Kd.R_below (rr_ HO_10) hb); have n1_ := mk_ (Kd.R_below (rr_ HO_12) hb); have n2_ := mk_ (blk_below (kk_ BK648) hb); have n3_ := mk_ (below_step (bs_ HB GE648.out) hb); clear HO_10 HO_12 BK648 HB; revert n0_ n1_ n2_ n3_; intro HO_10 HO_12 BK648 HB; (try clear hb); (try clear hb2); (try clear hk); (try clear hi)))
       go_ret
       exact ⟨ew_, bs1_ HB GE648⟩
      subst c145
      have H1 : (if t669 = true then (some true) else (some false)) = some r := by rw [if_pos rfl] at H; exact H
      clear H
      have H := H1
      clear H1
      by_cases c146 : t669 = true
      ·subst c146
       have H1 : (some true) = some r := by rw [if_pos rfl] at H; exact H
       clear H
       have H := H1
       clear H1
       obtain rfl := Option.some.inj H
       obtain ⟨Ao147, co147, eo147⟩ := Kd.R_slice HO_10.out
       subst eo147
       go_wp2_with (first | (go_at_call 14; (with_reducible refine (piecewise_Valid.calls kj18 _ _ t656 true _ ?side1 ?side2 A40.out).mono ?_); (case side1 => exact cc_ ((Kd.R_reads' HO_10.out).2.2)); (case side2 => exact (Kd.R_reads' HO_10.out).2.1); rintro e w148 ⟨rfl, hb⟩; have n0_ := mk_ (Kd.R_below (rr_ HO_10) hb); have n1_ := mk_ (Kd.R_below (rr_ HO_12) hb); have n2_ := mk_ (blk_below (kk_ BK648) hb); have n3_ := mk_ (below_step (bs_ HB GE648.out) hb); clear HO_10 HO_12 BK648 HB; revert n0_ n1_ n2_ n3_; intro HO_10 HO_12 BK648 HB; (try clear hb); (try clear hb2); (try clear hk); (try clear hi)) | (go_at_call 15; (with_reducible refine (cohousingref05_Valid.calls kj18 _ _ t656 true _ ?side1 ?side2 A42.out).mono ?_); (case side1 => exact cc_ ((Kd.R_reads' HO_10.out).2.2)); (case side2 => exact (Kd.R_reads' HO_10.out).2.1); rintro e w149 ⟨rfl, hb⟩; have n0_ := mk_ (Kd.R_below (rr_ HO_10) hb); have n1_ := mk_ (Kd.R_below (rr_ HO_12) hb); have n2_ := mk_ (blk_below (kk_ BK648) hb); have n3_ := mk_ (below_step (bs_ HB GE648.out) hb); clear HO_10 HO_12 BK648 HB; revert n0_ n1_ n2_ n3_; intro HO_10 HO_12 BK648 HB; (try clear hb); (try clear hb2); (try clear hk); (try clear hi)) | (go_at_call 31; (with_reducible refine (cohousingref05_Reduced.calls kj18 _ _ t656 true _ ?side1 ?side2 A44.out).mono ?_); (case side1 => exact cc_ ((Kd.R_reads' HO_10.out).2.2)); (case side2 => exact (Kd.R_reads' HO_10.out).2.1); rintro e w150 ⟨rfl, hb⟩; have n0_ := mk_ (Kd.R_below (rr_ HO_10) hb); have n1_ := mk_ (Kd.R_below (rr_ HO_12) hb); have n2_ := mk_ (blk_below (kk_ BK648) hb); have n3_ := mk_ (below_step (bs_ HB GE648.out) hb); clear HO_10 HO_12 BK648 HB; revert n0_ n1_ n2_ n3_; intro HO_10 HO_12 BK648 HB; (try clear hb); (try clear hb2); (try clear hk); (try clear hi)))
       go_ret
       exact ⟨ew_, bs1_ HB GE648⟩
      replace c146 := Bool.eq_false_iff.mpr c146
      subst c146
      have H1 : (some false) = some r := by rw [if_neg (show ¬ (false = true) by decide)] at H; exact H
      clear H
      have H := H1
      clear H1
      obtain rfl := Option.some.inj H
      obtain ⟨Ao151, co151, eo151⟩ := Kd.R_slice HO_10.out
      subst eo151
      go_wp2_with (first | (go_at_call 14; (with_reducible refine (piecewise_Valid.calls kj18 _ _ t656 true _ ?side1 ?side2 A40.out).mono ?_); (case side1 => exact cc_ ((Kd.R_reads' HO_10.out).2.2)); (case side2 => exact (Kd.R_reads' HO_10.out).2.1); rintro e w152 ⟨rfl, hb⟩; have n0_ := mk_ (Kd.R_below (rr_ HO_10) hb); have n1_ := mk_ (Kd.R_below (rr_ HO_12) hb); have n2_ := mk_ (blk_below (kk_ BK648) hb); have n3_ := mk_ (below_step (bs_ HB GE648.out) hb); clear HO_10 HO_12 BK648 HB; revert n0_ n1_ n2_ n3_; intro HO_10 HO_12 BK648 HB; (try clear hb); (try clear hb2); (try clear hk); (try clear hi)) | (go_at_call 15; (with_reducible refine (cohousingref05_Valid.calls kj18 _ _ t656 true _ ?side1 ?side2 A42.out).mono ?_); (case side1 => exact cc_ ((Kd.R_reads' HO_10.out).2.2)); (case side2 => exact (Kd.R_reads' HO_10.out).2.1); rintro e w153 ⟨rfl, hb⟩; have n0_ := mk_ (Kd.R_below (rr_ HO_10) hb); have n1_ := mk_ (Kd.R_below (rr_ HO_12) hb); have n2_ := mk_ (blk_below (kk_ BK648) hb); have n3_ := mk_ (below_step (bs_ HB GE648.out) hb); clear HO_10 HO_12 BK648 HB; revert n0_ n1_ n2_ n3_; intro HO_10 HO_12 BK648 HB; (try clear hb); (try clear hb2); (try clear hk); (try clear hi)) | (go_at_call 31; (with_reducible refine (cohousingref05_Reduced.calls kj18 _ _ t656 false _ ?side1 ?side2 A44.out).mono ?_); (case side1 => exact cc_ ((Kd.R_reads' HO_10.out).2.2)); (case side2 => exact (Kd.R_reads' HO_10.out).2.1); rintro e w154 ⟨rfl, hb⟩; have n0_ := mk_ (Kd.R_below (rr_ HO_10) hb); have n1_ := mk_ (Kd.R_below (rr_ HO_12) hb); have n2_ := mk_ (blk_below (kk_ BK648) hb); have n3_ := mk_ (below_step (bs_ HB GE648.out) hb); clear HO_10 HO_12 BK648 HB; revert n0_ n1_ n2_ n3_; intro HO_10 HO_12 BK648 HB; (try clear hb); (try clear hb2); (try clear hk); (try clear hi)))
      go_ret
      exact ⟨ew_, bs1_ HB GE648⟩
     rw [if_pos c45] at H
     have c45b0 : (t661 == 0) = true := beq_iff_eq.mpr c45
     have c45b1 : (t661 != 0) = false := bne_eq_false_iff_eq.mpr c45
     clear c45
     replace H := Option.bind_eq_some_iff.mp H
     obtain ⟨t670, A460, H⟩ := H
     replace H : (if t670 = true then ((cohousingref05_Valid.f kj18 t660).bind fun t671 => (if t671 = true then ((cohousingref05_Reduced.f kj18 t660).bind fun t672 => (if t649 = true then (if x14_18 = true then (if t669 = true then (some t672) else (some false)) else (some false)) else (some false))) else (if t649 = true then (if x14_18 = true then (if t669 = true then (some false) else (some false)) else (some false)) else (some false)))) else (if t649 = true then (if x14_18 = true then (if t669 = true then (some false) else (some false)) else (some false)) else (some false))) = some r := H
     have A46 := mk_ A460
     clear A460
     by_cases c47 : t670 = true
     rotate_left
     ·replace c47 := Bool.eq_false_iff.mpr c47
      subst c47
      have H1 : (if t649 = true then (if x14_18 = true then (if t669 = true then (some false) else (some false)) else (some false)) else (some false)) = some r := by rw [if_neg (show ¬ (false = true) by decide)] at H; exact H
      clear H
      have H := H1
      clear H1
      by_cases c117 : t649 = true
      rotate_left
      ·replace c117 := Bool.eq_false_iff.mpr c117
       subst c117
       have H1 : (some false) = some r := by rw [if_neg (show ¬ (false = true) by decide)] at H; exact H
       clear H
       have H := H1
       clear H1
       obtain rfl := Option.some.inj H
       obtain ⟨Ao138, co138, eo138⟩ := Kd.R_slice HO_10.out
       subst eo138
       go_wp2_with (first | (go_at_call 14; (with_reducible refine (piecewise_Valid.calls kj18 _ _ t656 true _ ?side1 ?side2 A40.out).mono ?_); (case side1 => exact cc_ ((Kd.R_reads' HO_10.out).2.2)); (case side2 => exact (Kd.R_reads' HO_10.out).2.1); rintro e w139 ⟨rfl, hb⟩; have n0_ := mk_ (Kd.R_below (rr_ HO_10) hb); have n1_ := mk_ (Kd.R_below (rr_ HO_12) hb); have n2_ := mk_ (blk_below (kk_ BK648) hb); have n3_ := mk_ (below_step (bs_ HB GE648.out) hb); clear HO_10 HO_12 BK648 HB; revert n0_ n1_ n2_ n3_; intro HO_10 HO_12 BK648 HB; (try clear hb); (try clear hb2); (try clear hk); (try clear hi)) | (go_at_call 15; (with_reducible refine (cohousingref05_Valid.calls kj18 _ _ t656 true _ ?side1 ?side2 A42.out).mono ?_); (case side1 => exact cc_ ((Kd.R_reads' HO_10.out).2.2)); (case side2 => exact (Kd.R_reads' HO_10.out).2.1); rintro e w140 ⟨rfl, hb⟩; have n0_ := mk_ (Kd.R_below (rr_ HO_10) hb); have n1_ := mk_ (Kd.R_below (rr_ HO_12) hb); have n2_ := mk_ (blk_below (kk_ BK648) hb); have n3_ := mk_ (below_step (bs_ HB GE648.out) hb); clear HO_10 HO_12 BK648 HB; revert n0_ n1_ n2_ n3_; intro HO_10 HO_12 BK648 HB; (try clear hb); (try clear hb2); (try clear hk); (try clear hi)) | (go_at_call 31; (with_reducible refine (cohousingref05_Reduced.calls kj18 _ _ t656 t669 _ ?side1 ?side2 A44.out).mono ?_); (case side1 => exact cc_ ((Kd.R_reads' HO_10.out).2.2)); (case side2 => exact (Kd.R_reads' HO_10.out).2.1); rintro e w141 ⟨rfl, hb⟩; have n0_ := mk_ (Kd.R_below (rr_ HO_10) hb); have n1_ := mk_ (Kd.R_below (rr_ HO_12) hb); have n2_ := mk_ (blk_below (kk_ BK648) hb); have n3_ := mk_ (below_step (bs_ HB GE648.out) hb); clear HO_10 HO_12 BK648 HB; revert n0_ n1_ n2_ n3_; intro HO_10 HO_12 BK648 HB; (try clear hb); (try clear hb2); (try clear hk); (try clear hi); obtain ⟨Ao142, co142, eo142⟩ := Kd.R_slice HO_12.out; subst eo142) | (go_at_call 14; (with_reducible refine (piecewise_Valid.calls kj18 _ _ t660 false _ ?side1 ?side2 A46.out).mono ?_); (case side1 => exact cc_ ((Kd.R_reads' HO_12.out).2.2)); (case side2 => exact (Kd.R_reads' HO_12.out).2.1); rintro e w143 ⟨rfl, hb⟩; have n0_ := mk_ (Kd.R_below (rr_ HO_10) hb); have n1_ := mk_ (Kd.R_below (rr_ HO_12) hb); have n2_ := mk_ (blk_below (kk_ BK648) hb); have n3_ := mk_ (below_step (bs_ HB GE648.out) hb); clear HO_10 HO_12 BK648 HB; revert n0_ n1_ n2_ n3_; intro HO_10 HO_12 BK648 HB; (try clear hb); (try clear hb2); (try clear hk); (try clear hi)))
       go_ret
       exact ⟨ew_, bs1_ HB GE648⟩
      subst c117
      have H1 : (if x14_18 = true then (if t669 = true then (some false) else (some false)) else (some false)) = some r := by rw [if_pos rfl] at H; exact H
      clear H
      have H := H1
      clear H1
      by_cases c118 : x14_18 = true
      rotate_left
      ·replace c118 := Bool.eq_false_iff.mpr c118
       subst c118
       have H1 : (some false) = some r := by rw [if_neg (show ¬ (false = true) by decide)] at H; exact H
       clear H
       have H := H1
       clear H1
       obtain rfl := Option.some.inj H
       obtain ⟨Ao132, co132, eo132⟩ := Kd.R_slice HO_10.out
       subst eo132
       go_wp2_with (first | (go_at_call 14; (with_reducible refine (piecewise_Valid.calls kj18 _ _ t656 true _ ?side1 ?side2 A40.out).mono ?_); (case side1 => exact cc_ ((Kd.R_reads' HO_10.out).2.2)); (case side2 => exact (Kd.R_reads' HO_10.out).2.1); rintro e w133 ⟨rfl, hb⟩; have n0_ := mk_ (Kd.R_below (rr_ HO_10) hb); have n1_ := mk_ (Kd.R_below (rr_ HO_12) hb); have n2_ := mk_ (blk_below (kk_ BK648) hb); have n3_ := mk_ (below_step (bs_ HB GE648.out) hb); clear HO_10 HO_12 BK648 HB; revert n0_ n1_ n2_ n3_; intro HO_10 HO_12 BK648 HB; (try clear hb); (try clear hb2); (try clear hk); (try clear hi)) | (go_at_call 15; (with_reducible refine (cohousingref05_Valid.calls kj18 _ _ t656 true _ ?side1 ?side2 A42.out).mono ?_); (case side1 => exact cc_ ((Kd.R_reads' HO_10.out).2.2)); (case side2 => exact (Kd.R_reads' HO_10.out).2.1); rintro e w134 ⟨rfl, hb⟩; have n0_ := mk_ (Kd.R_below (rr_ HO_10) hb); have n1_ := mk_ (Kd.R_below (rr_ HO_12) hb); have n2_ := mk_ (blk_below (kk_ BK648) hb); have n3_ := mk_ (below_step (bs_ HB GE648.out) hb); clear HO_10 HO_12 BK648 HB; revert n0_ n1_ n2_ n3_; intro HO_10 HO_12 BK648 HB; (try clear hb); (try clear hb2); (try clear hk); (try clear hi)) | (go_at_call 31; (with_reducible refine (cohousingref05_Reduced.calls kj18 _ _ t656 t669 _ ?side1 ?side2 A44.out).mono ?_); (case side1 => exact cc_ ((Kd.R_reads' HO_10.out).2.2)); (case side2 => exact (Kd.R_reads' HO_10.out).2.1); rintro e w135 ⟨rfl, hb⟩; have n0_ := mk_ (Kd.R_below (rr_ HO_10) hb); have n1_ := mk_ (Kd.R_below (rr_ HO_12) hb); have n2_ := mk_ (blk_below (kk_ BK648) hb); have n3_ := mk_ (below_step (bs_ HB GE648.out) hb); clear HO_10 HO_12 BK648 HB; revert n0_ n1_ n2_ n3_; intro HO_10 HO_12 BK648 HB; (try clear hb); (try clear hb2); (try clear hk); (try clear hi); obtain ⟨Ao136, co136, eo136⟩ := Kd.R_slice HO_12.out; subst eo136) | (go_at_call 14; (with_reducible refine (piecewise_Valid.calls kj18 _ _ t660 false _ ?side1 ?side2 A46.out).mono ?_); (case side1 => exact cc_ ((Kd.R_reads' HO_12.out).2.2)); (case side2 => exact (Kd.R_reads' HO_12.out).2.1); rintro e w137 ⟨rfl, hb⟩; have n0_ := mk_ (Kd.R_below (rr_ HO_10) hb); have n1_ := mk_ (Kd.R_below (rr_ HO_12) hb); have n2_ := mk_ (blk_below (kk_ BK648) hb); have n3_ := mk_ (below_step (bs_ HB GE648.out) hb); clear HO_10 HO_12 BK648 HB; revert n0_ n1_ n2_ n3_; intro HO_10 HO_12 BK648 HB; (try clear hb); (try clear hb2); (try clear hk); (try clear hi)))
       go_ret
       exact ⟨ew_, bs1_ HB GE648⟩
      subst c118
      have H1 : (if t669 = true then (some false) else (some false)) = some r := by rw [if_pos rfl] at H; exact H
      clear H
      have H := H1
      clear H1
      by_cases c119 : t669 = true
      ·subst c119
       have H1 : (some false) = some r := by rw [if_pos rfl] at H; exact H
       clear H
       have H := H1
       clear H1
       obtain rfl := Option.some.inj H
       obtain ⟨Ao120, co120, eo120⟩ := Kd.R_slice HO_10.out
       subst eo120
       go_wp2_with (first | (go_at_call 14; (with_reducible refine (piecewise_Valid.calls kj18 _ _ t656 true _ ?side1 ?side2 A40.out).mono ?_); (case side1 => exact cc_ ((Kd.R_reads' HO_10.out).2.2)); (case side2 => exact (Kd.R_reads' HO_10.out).2.1); rintro e w121 ⟨rfl, hb⟩; have n0_ := mk_ (Kd.R_below (rr_ HO_10) hb); have n1_ := mk_ (Kd.R_below (rr_ HO_12) hb); have n2_ := mk_ (blk_below (kk_ BK648) hb); have n3_ := mk_ (below_step (bs_ HB GE648.out) hb); clear HO_10 HO_12 BK648 HB; revert n0_ n1_ n2_ n3_; intro HO_10 HO_12 BK648 HB; (try clear hb); (try clear hb2); (try clear hk); (try clear hi)) | (go_at_call 15; (with_reducible refine (cohousingref05_Valid.calls kj18 _ _ t656 true _ ?side1 ?side2 A42.out).mono ?_); (case side1 => exact cc_ ((Kd.R_reads' HO_10.out).2.2)); (case side2 => exact (Kd.R_reads' HO_10.out).2.1); rintro e w122 ⟨rfl, hb⟩; have n0_ := mk_ (Kd.R_below (rr_ HO_10) hb); have n1_ := mk_ (Kd.R_below (rr_ HO_12) hb); have n2_ := mk_ (blk_below (kk_ BK648) hb); have n3_ := mk_ (below_step (bs_ HB GE648.out) hb); clear HO_10 HO_12 BK648 HB; revert n0_ n1_ n2_ n3_; intro HO_10 HO_12 BK648 HB; (try clear hb); (try clear hb2); (try clear hk); (try clear hi)) | (go_at_call 31; (with_reducible refine (cohousingref05_Reduced.calls kj18 _ _ t656 true _ ?side1 ?side2 A44.out).mono ?_); (case side1 => exact cc_ ((Kd.R_reads' HO_10.out).2.2)); (case side2 => exact (Kd.R_reads' HO_10.out).2.1); rintro e w123 ⟨rfl, hb⟩; have n0_ := mk_ (Kd.R_below (rr_ HO_10) hb); have n1_ := mk_ (Kd.R_below (rr_ HO_12) hb); have n2_ := mk_ (blk_below (kk_ BK648) hb); have n3_ := mk_ (below_step (bs_ HB GE648.out) hb); clear HO_10 HO_12 BK648 HB; revert n0_ n1_ n2_ n3_; intro HO_10 HO_12 BK648 HB; (try clear hb); (try clear hb2); (try clear hk); (try clear hi); obtain ⟨Ao124, co124, eo124⟩ := Kd.R_slice HO_12.out; subst eo124) | (go_at_call 14; (with_reducible refine (piecewise_Valid.calls kj18 _ _ t660 false _ ?side1 ?side2 A46.out).mono ?_); (case side1 => exact cc_ ((Kd.R_reads' HO_12.out).2.2)); (case side2 => exact (Kd.R_reads' HO_12.out).2.1); rintro e w125 ⟨rfl, hb⟩; have n0_ := mk_ (Kd.R_below (rr_ HO_10) hb); have n1_ := mk_ (Kd.R_below (rr_ HO_12) hb); have n2_ := mk_ (blk_below (kk_ BK648) hb); have n3_ := mk_ (below_step (bs_ HB GE648.out) hb); clear HO_10 HO_12 BK648 HB; revert n0_ n1_ n2_ n3_; intro HO_10 HO_12 BK648 HB; (try clear hb); (try clear hb2); (try clear hk); (try clear hi)))
       go_ret
       exact ⟨ew_, bs1_ HB GE648⟩
      replace c119 := Bool.eq_false_iff.mpr c119
      subst c119
      have H1 : (some false) = some r := by rw [if_neg (show ¬ (false = true) by decide)] at H; exact H
      clear H
      have H := H1
      clear H1
      obtain rfl := Option.some.inj H
      obtain ⟨Ao126, co126, eo126⟩ := Kd.R_slice HO_10.out
      subst eo126
      go_wp2_with (first | (go_at_call 14; (with_reducible refine (piecewise_Valid.calls kj18 _ _ t656 true _ ?side1 ?side2 A40.out).mono ?_); (case side1 => exact cc_ ((Kd.R_reads' HO_10.out).2.2)); (case side2 => exact (Kd.R_reads' HO_10.out).2.1); rintro e w127 ⟨rfl, hb⟩; have n0_ := mk_ (Kd.R_below (rr_ HO_10) hb); have n1_ := mk_ (Kd.R_below (rr_ HO_12) hb); have n2_ := mk_ (blk_below (kk_ BK648) hb); have n3_ := mk_ (below_step (bs_ HB GE648.out) hb); clear HO_10 HO_12 BK648 HB; revert n0_ n1_ n2_ n3_; intro HO_10 HO_12 BK648 HB; (try clear hb); (try clear hb2); (try clear hk); (try clear hi)) | (go_at_call 15; (with_reducible refine (cohousingref05_Valid.calls kj18 _ _ t656 true _ ?side1 ?side2 A42.out).mono ?_); (case side1 => exact cc_ ((Kd.R_reads' HO_10.out).2.2)); (case side2 => exact (Kd.R_reads' HO_10.out).2.1); rintro e w128 ⟨rfl, hb⟩; have n0_ := mk_ (Kd.R_below (rr_ HO_10) hb); have n1_ := mk_ (Kd.R_below (rr_ HO_12) hb); have n2_ := mk_ (blk_below (kk_ BK648) hb); have n3_ := mk_ (below_step (bs_ HB GE648.out) hb); clear HO_10 HO_12 BK648 HB; revert n0_ n1_ n2_ n3_; intro HO_10 HO_12 BK648 HB; (try clear hb); (try clear hb2); (try clear hk); (try clear hi)) | (go_at_call 31; (with_reducible refine (cohousingref05_Reduced.calls kj18 _ _ t656 false _ ?side1 ?side2 A44.out).mono ?_); (case side1 => exact cc_ ((Kd.R_reads' HO_10.out).2.2)); (case side2 => exact (Kd.R_reads' HO_10.out).2.1); rintro e w129 ⟨rfl, hb⟩; have n0_ := mk_ (Kd.R_below (rr_ HO_10) hb); have n1_ := mk_ (Kd.R_below (rr_ HO_12) hb); have n2_ := mk_ (blk_below (kk_ BK648) hb); have n3_ := mk_ (below_step (bs_ HB GE648.out) hb); clear HO_10 HO_12 BK648 HB; revert n0_ n1_ n2_ n3_; intro HO_10 HO_12 BK648 HB; (try clear hb); (try clear hb2); (try clear hk); (try clear hi); obtain ⟨Ao130, co130, eo130⟩ := Kd.R_slice HO_12.out; subst eo130) | (go_at_call 14; (with_reducible refine (piecewise_Valid.calls kj18 _ _ t660 false _ ?side1 ?side2 A46.out).mono ?_); (case side1 => exact cc_ ((Kd.R_reads' HO_12.out).2.2)); (case side2 => exact (Kd.R_reads' HO_12.out).2.1); rintro e w131 ⟨rfl, hb⟩; have n0_ := mk_ (Kd.R_below (rr_ HO_10) hb); have n1_ := mk_ (Kd.R_below (rr_ HO_12) hb); have n2_ := mk_ (blk_below (kk_ BK648) hb); have n3_ := mk_ (below_step (bs_ HB GE648.out) hb); clear HO_10 HO_12 BK648 HB; revert n0_ n1_ n2_ n3_; intro HO_10 HO_12 BK648 HB; (try clear hb); (try clear hb2); (try clear hk); (try clear hi)))
      go_ret
      exact ⟨ew_, bs1_ HB GE648⟩
     subst c47
     have H1 : ((cohousingref05_Valid.f kj18 t660).bind fun t671 => (if t671 = true then ((cohousingref05_Reduced.f kj18 t660).bind fun t672 => (if t649 = true then (if x14_18 = true then (if t669 = true then (some t672) else (some false)) else (some false)) else (some false))) else (if t649 = true then (if x14_18 = true then (if t669 = true then (some false) else (some false)) else (some false)) else (some false)))) = some r := by rw [if_pos rfl] at H; exact H
     clear H
     have H := H1
     clear H1
     replace H := Option.bind_eq_some_iff.mp H
     obtain ⟨t671, A480, H⟩ := H
     replace H : (if t671 = true then ((cohousingref05_Reduced.f kj18 t660).bind fun t672 => (if t649 = true then (if x14_18 = true then (if t669 = true then (some t672) else (some false)) else (some false)) else (some false))) else (if t649 = true then (if x14_18 = true then (if t669 = true then (some false) else (some false)) else (some false)) else (some false))) = some r := H
     have A48 := mk_ A480
     clear A480
     by_cases c49 : t671 = true
     rotate_left
     ·replace c49 := Bool.eq_false_iff.mpr c49
      subst c49
      have H1 : (if t649 = true then (if x14_18 = true then (if t669 = true then (some false) else (some false)) else (some false)) else (some false)) = some r := by rw [if_neg (show ¬ (false = true) by decide)] at H; exact H
      clear H
      have H := H1
      clear H1
      by_cases c86 : t649 = true
      rotate_left
      ·replace c86 := Bool.eq_false_iff.mpr c86
       subst c86
       have H1 : (some false) = some r := by rw [if_neg (show ¬ (false = true) by decide)] at H; exact H
       clear H
       have H := H1
       clear H1
       obtain rfl := Option.some.inj H
       obtain ⟨Ao110, co110, eo110⟩ := Kd.R_slice HO_10.out
       subst eo110
       go_wp2_with (first | (go_at_call 14; (with_reducible refine (piecewise_Valid.calls kj18 _ _ t656 true _ ?side1 ?side2 A40.out).mono ?_); (case side1 => exact cc_ ((Kd.R_reads' HO_10.out).2.2)); (case side2 => exact (Kd.R_reads' HO_10.out).2.1); rintro e w111 ⟨rfl, hb⟩; have n0_ := mk_ (Kd.R_below (rr_ HO_10) hb); have n1_ := mk_ (Kd.R_below (rr_ HO_12) hb); have n2_ := mk_ (blk_below (kk_ BK648) hb); have n3_ := mk_ (below_step (bs_ HB GE648.out) hb); clear HO_10 HO_12 BK648 HB; revert n0_ n1_ n2_ n3_; intro HO_10 HO_12 BK648 HB; (try clear hb); (try clear hb2); (try clear hk); (try clear hi)) | (go_at_call 15; (with_reducible refine (cohousingref05_Valid.calls kj18 _ _ t656 true _ ?side1 ?side2 A42.out).mono ?_); (case side1 => exact cc_ ((Kd.R_reads' HO_10.out).2.2)); (case side2 => exact (Kd.R_reads' HO_10.out).2.1); rintro e w112 ⟨rfl, hb⟩; have n0_ := mk_ (Kd.R_below (rr_ HO_10) hb); have n1_ := mk_ (Kd.R_below (rr_ HO_12) hb); have n2_ := mk_ (blk_below (kk_ BK648) hb); have n3_ := mk_ (below_step (bs_ HB GE648.out) hb); clear HO_10 HO_12 BK648 HB; revert n0_ n1_ n2_ n3_; intro HO_10 HO_12 BK648 HB; (try clear hb); (try clear hb2); (try clear hk); (try clear hi)) | (go_at_call 31; (with_reducible refine (cohousingref05_Reduced.calls kj18 _ _ t656 t669 _ ?side1 ?side2 A44.out).mono ?_); (case side1 => exact cc_ ((Kd.R_reads' HO_10.out).2.2)); (case side2 => exact (Kd.R_reads' HO_10.out).2.1); rintro e w113 ⟨rfl, hb⟩; have n0_ := mk_ (Kd.R_below (rr_ HO_10) hb); have n1_ := mk_ (Kd.R_below (rr_ HO_12) hb); have n2_ := mk_ (blk_below (kk_ BK648) hb); have n3_ := mk_ (below_step (bs_ HB GE648.out) hb); clear HO_10 HO_12 BK648 HB; revert n0_ n1_ n2_ n3_; intro HO_10 HO_12 BK648 HB; (try clear hb); (try clear hb2); (try clear hk); (try clear hi); obtain ⟨Ao114, co114, eo114⟩ := Kd.R_slice HO_12.out; subst eo114) | (go_at_call 14; (with_reducible refine (piecewise_Valid.calls kj18 _ _ t660 true _ ?side1 ?side2 A46.out).mono ?_); (case side1 => exact cc_ ((Kd.R_reads' HO_12.out).2.2)); (case side2 => exact (Kd.R_reads' HO_12.out).2.1); rintro e w115 ⟨rfl, hb⟩; have n0_ := mk_ (Kd.R_below (rr_ HO_10) hb); have n1_ := mk_ (Kd.R_below (rr_ HO_12) hb); have n2_ := mk_ (blk_below (kk_ BK648) hb); have n3_ := mk_ (below_step (bs_ HB GE648.out) hb); clear HO_10 HO_12 BK648 HB; revert n0_ n1_ n2_ n3_; intro HO_10 HO_12 BK648 HB; (try clear hb); (try clear hb2); (try clear hk); (try clear hi)) | (go_at_call 15; (with_reducible refine (cohousingref05_Valid.calls kj18 _ _ t660 false _ ?side1 ?side2 A48.out).mono ?_); (case side1 => exact cc_ ((Kd.R_reads' HO_12.out).2.2)); (case side2 => exact (Kd.R_reads' HO_12.out).2.1); rintro e w116 ⟨rfl, hb⟩; have n0_ := mk_ (Kd.R_below (rr_ HO_10) hb); have n1_ := mk_ (Kd.R_below (rr_ HO_12) hb); have n2_ := mk_ (blk_below (kk_ BK648) hb); have n3_ := mk_ (below_step (bs_ HB GE648.out) hb); clear HO_10 HO_12 BK648 HB; revert n0_ n1_ n2_ n3_; intro HO_10 HO_12 BK648 HB; (try clear hb); (try clear hb2); (try clear hk); (try clear hi)))
       go_ret
       exact ⟨ew_, bs1_ HB GE648⟩
      subst c86
      have H1 : (if x14_18 = true then (if t669 = true then (some false) else (some false)) else (some false)) = some r := by rw [if_pos rfl] at H; exact H
      clear H
      have H := H1
      clear H1
      by_cases c87 : x14_18 = true
      rotate_left
      ·replace c87 := Bool.eq_false_iff.mpr c87
       subst c87
       have H1 : (some false) = some r := by rw [if_neg (show ¬ (false = true) by decide)] at H; exact H
       clear H
       have H := H1
       clear H1
       obtain rfl := Option.some.inj H
       obtain ⟨Ao103, co103, eo103⟩ := Kd.R_slice HO_10.out
       subst eo103
       go_wp2_with (first | (go_at_call 14; (with_reducible refine (piecewise_Valid.calls kj18 _ _ t656 true _ ?side1 ?side2 A40.out).mono ?_); (case side1 => exact cc_ ((Kd.R_reads' HO_10.out).2.2)); (case side2 => exact (Kd.R_reads' HO_10.out).2.1); rintro e w104 ⟨rfl, hb⟩; have n0_ := mk_ (Kd.R_below (rr_ HO_10) hb); have n1_ := mk_ (Kd.R_below (rr_ HO_12) hb); have n2_ := mk_ (blk_below (kk_ BK648) hb); have n3_ := mk_ (below_step (bs_ HB GE648.out) hb); clear HO_10 HO_12 BK648 HB; revert n0_ n1_ n2_ n3_; intro HO_10 HO_12 BK648 HB; (try clear hb); (try clear hb2); (try clear hk); (try clear hi)) | (go_at_call 15; (with_reducible refine (cohousingref05_Valid.calls kj18 _ _ t656 true _ ?side1 ?side2 A42.out).mono ?_); (case side1 => exact cc_ ((Kd.R_reads' HO_10.out).2.2)); (case side2 => exact (Kd.R_reads' HO_10.out).2.1); rintro e w105 ⟨rfl, hb⟩; have n0_ := mk_ (Kd.R_below (rr_ HO_10) hb); have n1_ := mk_ (Kd.R_below (rr_ HO_12) hb); have n2_ := mk_ (blk_below (kk_ BK648) hb); have n3_ := mk_ (below_step (bs_ HB GE648.out) hb); clear HO_10 HO_12 BK648 HB; revert n0_ n1_ n2_ n3_; intro HO_10 HO_12 BK648 HB; (try clear hb); (try clear hb2); (try clear hk); (try clear hi)) | (go_at_call 31; (with_reducible refine (cohousingref05_Reduced.calls kj18 _ _ t656 t669 _ ?side1 ?side2 A44.out).mono ?_); (case side1 => exact cc_ ((Kd.R_reads' HO_10.out).2.2)); (case side2 => exact (Kd.R_reads' HO_10.out).2.1); rintro e w106 ⟨rfl, hb⟩; have n0_ := mk_ (Kd.R_below (rr_ HO_10) hb); have n1_ := mk_ (Kd.R_below (rr_ HO_12) hb); have n2_ := mk_ (blk_below (kk_ BK648) hb); have n3_ := mk_ (below_step (bs_ HB GE648.out) hb); clear HO_10 HO_12 BK648 HB; revert n0_ n1_ n2_ n3_; intro HO_10 HO_12 BK648 HB; (try clear hb); (try clear hb2); (try clear hk); (try clear hi); obtain ⟨Ao107, co107, eo107⟩ := Kd.R_slice HO_12.out; subst eo107) | (go_at_call 14; (with_reducible refine (piecewise_Valid.calls kj18 _ _ t660 true _ ?side1 ?side2 A46.out).mono ?_); (case side1 => exact cc_ ((Kd.R_reads' HO_12.out).2.2)); (case side2 => exact (Kd.R_reads' HO_12.out).2.1); rintro e w108 ⟨rfl, hb⟩; have n0_ := mk_ (Kd.R_below (rr_ HO_10) hb); have n1_ := mk_ (Kd.R_below (rr_ HO_12) hb); have n2_ := mk_ (blk_below (kk_ BK648) hb); have n3_ := mk_ (below_step (bs_ HB GE648.out) hb); clear HO_10 HO_12 BK648 HB; revert n0_ n1_ n2_ n3_; intro HO_10 HO_12 BK648 HB; (try clear hb); (try clear hb2); (try clear hk); (try clear hi)) | (go_at_call 15; (with_reducible refine (cohousingref05_Valid.calls kj18 _ _ t660 false _ ?side1 ?side2 A48.out).mono ?_); (case side1 => exact cc_ ((Kd.R_reads' HO_12.out).2.2)); (case side2 => exact (Kd.R_reads' HO_12.out).2.1); rintro e w109 ⟨rfl, hb⟩; have n0_ := mk_ (Kd.R_below (rr_ HO_10) hb); have n1_ := mk_ (Kd.R_below (rr_ HO_12) hb); have n2_ := mk_ (blk_below (kk_ BK648) hb); have n3_ := mk_ (below_step (bs_ HB GE648.out) hb); clear HO_10 HO_12 BK648 HB; revert n0_ n1_ n2_ n3_; intro HO_10 HO_12 BK648 HB; (try clear hb); (try clear hb2); (try clear hk); (try clear hi)))
       go_ret
       exact ⟨ew_, bs1_ HB GE648⟩
      subst c87
      have H1 : (if t669 = true then (some false) else (some false)) = some r := by rw [if_pos rfl] at H; exact H
      clear H
      have H := H1
      clear H1
      by_cases c88 : t669 = true
      ·subst c88
       have H1 : (some false) = some r := by rw [if_pos rfl] at H; exact H
       clear H
       have H := H1
       clear H1
       obtain rfl := Option.some.inj H
       obtain ⟨Ao89, co89, eo89⟩ := Kd.R_slice HO_10.out
       subst eo89
       go_wp2_with (first | (go_at_call 14; (with_reducible refine (piecewise_Valid.calls kj18 _ _ t656 true _ ?side1 ?side2 A40.out).mono ?_); (case side1 => exact cc_ ((Kd.R_reads' HO_10.out).2.2)); (case side2 => exact (Kd.R_reads' HO_10.out).2.1); rintro e w90 ⟨rfl, hb⟩; have n0_ := mk_ (Kd.R_below (rr_ HO_10) hb); have n1_ := mk_ (Kd.R_below (rr_ HO_12) hb); have n2_ := mk_ (blk_below (kk_ BK648) hb); have n3_ := mk_ (below_step (bs_ HB GE648.out) hb); clear HO_10 HO_12 BK648 HB; revert n0_ n1_ n2_ n3_; intro HO_10 HO_12 BK648 HB; (try clear hb); (try clear hb2); (try clear hk); (try clear hi)) | (go_at_call 15; (with_reducible refine (cohousingref05_Valid.calls kj18 _ _ t656 true _ ?side1 ?side2 A42.out).mono ?_); (case side1 => exact cc_ ((Kd.R_reads' HO_10.out).2.2)); (case side2 => exact (Kd.R_reads' HO_10.out).2.1); rintro e w91 ⟨rfl, hb⟩; have n0_ := mk_ (Kd.R_below (rr_ HO_10) hb); have n1_ := mk_ (Kd.R_below (rr_ HO_12) hb); have n2_ := mk_ (blk_below (kk_ BK648) hb); have n3_ := mk_ (below_step (bs_ HB GE648.out) hb); clear HO_10 HO_12 BK648 HB; revert n0_ n1_ n2_ n3_; intro HO_10 HO_12 BK648 HB; (try clear hb); (try clear hb2); (try clear hk); (try clear hi)) | (go_at_call 31; (with_reducible refine (cohousingref05_Reduced.calls kj18 _ _ t656 true _ ?side1 ?side2 A44.out).mono ?_); (case side1 => exact cc_ ((Kd.R_reads' HO_10.out).2.2)); (case side2 => exact (Kd.R_reads' HO_10.out).2.1); rintro e w92 ⟨rfl, hb⟩; have n0_ := mk_ (Kd.R_below (rr_ HO_10) hb); have n1_ := mk_ (Kd.R_below (rr_ HO_12) hb); have n2_ := mk_ (blk_below (kk_ BK648) hb); have n3_ := mk_ (below_step (bs_ HB GE648.out) hb); clear HO_10 HO_12 BK648 HB; revert n0_ n1_ n2_ n3_; intro HO_10 HO_12 BK648 HB; (try clear hb); (try clear hb2); (try clear hk); (try clear hi); obtain ⟨Ao93, co93, eo93⟩ := Kd.R_slice HO_12.out; subst eo93) | (go_at_call 14; (with_reducible refine (piecewise_Valid.calls kj18 _ _ t660 true _ ?side1 ?side2 A46.out).mono ?_); (case side1 => exact cc_ ((Kd.R_reads' HO_12.out).2.2)); (case side2 => exact (Kd.R_reads' HO_12.out).2.1); rintro e w94 ⟨rfl, hb⟩; have n0_ := mk_ (Kd.R_below (rr_ HO_10) hb); have n1_ := mk_ (Kd.R_below (rr_ HO_12) hb); have n2_ := mk_ (blk_below (kk_ BK648) hb); have n3_ := mk_ (below_step (bs_ HB GE648.out) hb); clear HO_10 HO_12 BK648 HB; revert n0_ n1_ n2_ n3_; intro HO_10 HO_12 BK648 HB; (try clear hb); (try clear hb2); (try clear hk); (try clear hi)) | (go_at_call 15; (with_reducible refine (cohousingref05_Valid.calls kj18 _ _ t660 false _ ?side1 ?side2 A48.out).mono ?_); (case side1 => exact cc_ ((Kd.R_reads' HO_12.out).2.2)); (case side2 => exact (Kd.R_reads' HO_12.out).2.1); rintro e w95 ⟨rfl, hb⟩; have n0_ := mk_ (Kd.R_below (rr_ HO_10) hb); have n1_ := mk_ (Kd.R_below (rr_ HO_12) hb); have n2_ := mk_ (blk_below (kk_ BK648) hb); have n3_ := mk_ (below_step (bs_ HB GE648.out) hb); clear HO_10 HO_12 BK648 HB; revert n0_ n1_ n2_ n3_; intro HO_10 HO_12 BK648 HB; (try clear hb); (try clear hb2); (try clear hk); (try clear hi)))
       go_ret
       exact ⟨ew_, bs1_ HB GE648⟩
      replace c88 := Bool.eq_false_iff.mpr c88
      subst c88
      have H1 : (some false) = some r := by rw [if_neg (show ¬ (false = true) by decide)] at H; exact H
      clear H
      have H := H1
      clear H1
      obtain rfl := Option.some.inj H
      obtain ⟨Ao96, co96, eo96⟩ := Kd.R_slice HO_10.out
      subst eo96
      go_wp2_with (first | (go_at_call 14; (with_reducible refine (piecewise_Valid.calls kj18 _ _ t656 true _ ?side1 ?side2 A40.out).mono ?_); (case side1 => exact cc_ ((Kd.R_reads' HO_10.out).2.2)); (case side2 => exact (Kd.R_reads' HO_10.out).2.1); rintro e w97 ⟨rfl, hb⟩; have n0_ := mk_ (Kd.R_below (rr_ HO_10) hb); have n1_ := mk_ (Kd.R_below (rr_ HO_12) hb); have n2_ := mk_ (blk_below (kk_ BK648) hb); have n3_ := mk_ (below_step (bs_ HB GE648.out) hb); clear HO_10 HO_12 BK648 HB; revert n0_ n1_ n2_ n3_; intro HO_10 HO_12 BK648 HB; (try clear hb); (try clear hb2); (try clear hk); (try clear hi)) | (go_at_call 15; (with_reducible refine (cohousingref05_Valid.calls kj18 _ _ t656 true _ ?side1 ?side2 A42.out).mono ?_); (case side1 => exact cc_ ((Kd.R_reads' HO_10.out).2.2)); (case side2 => exact (Kd.R_reads' HO_10.out).2.1); rintro e w98 ⟨rfl, hb⟩; have n0_ := mk_ (Kd.R_below (rr_ HO_10) hb); have n1_ := mk_ (Kd.R_below (rr_ HO_12) hb); have n2_ := mk_ (blk_below (kk_ BK648) hb); have n3_ := mk_ (below_step (bs_ HB GE648.out) hb); clear HO_10 HO_12 BK648 HB; revert n0_ n1_ n2_ n3_; intro HO_10 HO_12 BK648 HB; (try clear hb); (try clear hb2); (try clear hk); (try clear hi)) | (go_at_call 31; (with_reducible refine (cohousingref05_Reduced.calls kj18 _ _ t656 false _ ?side1 ?side2 A44.out).mono ?_); (case side1 => exact cc_ ((Kd.R_reads' HO_10.out).2.2)); (case side2 => exact (Kd.R_reads' HO_10.out).2.1); rintro e w99 ⟨rfl, hb⟩; have n0_ := mk_ (Kd.R_below (rr_ HO_10) hb); have n1_ := mk_ (Kd.R_below (rr_ HO_12) hb); have n2_ := mk_ (blk_below (kk_ BK648) hb); have n3_ := mk_ (below_step (bs_ HB GE648.out) hb); clear HO_10 HO_12 BK648 HB; revert n0_ n1_ n2_ n3_; intro HO_10 HO_12 BK648 HB; (try clear hb); (try clear hb2); (try clear hk); (try clear hi); obtain ⟨Ao100, co100, eo100⟩ := Kd.R_slice HO_12.out; subst eo100) | (go_at_call 14; (with_reducible refine (piecewise_Valid.calls kj18 _ _ t660 true _ ?side1 ?side2 A46.out).mono ?_); (case side1 => exact cc_ ((Kd.R_reads' HO_12.out).2.2)); (case side2 => exact (Kd.R_reads' HO_12.out).2.1); rintro e w101 ⟨rfl, hb⟩; have n0_ := mk_ (Kd.R_below (rr_ HO_10) hb); have n1_ := mk_ (Kd.R_below (rr_ HO_12) hb); have n2_ := mk_ (blk_below (kk_ BK648) hb); have n3_ := mk_ (below_step (bs_ HB GE648.out) hb); clear HO_10 HO_12 BK648 HB; revert n0_ n1_ n2_ n3_; intro HO_10 HO_12 BK648 HB; (try clear hb); (try clear hb2); (try clear hk); (try clear hi)) | (go_at_call 15; (with_reducible refine (cohousingref05_Valid.calls kj18 _ _ t660 false _ ?side1 ?side2 A48.out).mono ?_); (case side1 => exact cc_ ((Kd.R_reads' HO_12.out).2.2)); (case side2 => exact (Kd.R_reads' HO_12.out).2.1); rintro e w102 ⟨rfl, hb⟩; have n0_ := mk_ (Kd.R_below (rr_ HO_10) hb); have n1_ := mk_ (Kd.R_below (rr_ HO_12) hb); have n2_ := mk_ (blk_below (kk_ BK648) hb); have n3_ := mk_ (below_step (bs_ HB GE648.out) hb); clear HO_10 HO_12 BK648 HB; revert n0_ n1_ n2_ n3_; intro HO_10 HO_12 BK648 HB; (try clear hb); (try clear hb2); (try clear hk); (try clear hi)))
      go_ret
      exact ⟨ew_, bs1_ HB GE648⟩
     subst c49
     have H1 : ((cohousingref05_Reduced.f kj18 t660).bind fun t672 => (if t649 = true then (if x14_18 = true then (if t669 = true then (some t672) else (some false)) else (some false)) else (some false))) = some r := by rw [if_pos rfl] at H; exact H
     clear H
     have H := H1
     clear H1
     replace H := Option.bind_eq_some_iff.mp H
     obtain ⟨t672, A500, H⟩ := H
     replace H : (if t649 = true then (if x14_18 = true then (if t669 = true then (some t672) else (some false)) else (some false)) else (some false)) = some r := H
     have A50 := mk_ A500
     clear A500
     by_cases c51 : t649 = true
     rotate_left
     ·replace c51 := Bool.eq_false_iff.mpr c51
      subst c51
      have H1 : (some false) = some r := by rw [if_neg (show ¬ (false = true) by decide)] at H; exact H
      clear H
      have H := H1
      clear H1
      obtain rfl := Option.some.inj H
      obtain ⟨Ao78, co78, eo78⟩ := Kd.R_slice HO_10.out
      subst eo78
      go_wp2_with (first | (go_at_call 14; (with_reducible refine (piecewise_Valid.calls kj18 _ _ t656 true _ ?side1 ?side2 A40.out).mono ?_); (case side1 => exact cc_ ((Kd.R_reads' HO_10.out).2.2)); (case side2 => exact (Kd.R_reads' HO_10.out).2.1); rintro e w79 ⟨rfl, hb⟩; have n0_ := mk_ (Kd.R_below (rr_ HO_10) hb); have n1_ := mk_ (Kd.R_below (rr_ HO_12) hb); have n2_ := mk_ (blk_below (kk_ BK648) hb); have n3_ := mk_ (below_step (bs_ HB GE648.out) hb); clear HO_10 HO_12 BK648 HB; revert n0_ n1_ n2_ n3_; intro HO_10 HO_12 BK648 HB; (try clear hb); (try clear hb2); (try clear hk); (try clear hi)) | (go_at_call 15; (with_reducible refine (cohousingref05_Valid.calls kj18 _ _ t656 true _ ?side1 ?side2 A42.out).mono ?_); (case side1 => exact cc_ ((Kd.R_reads' HO_10.out).2.2)); (case side2 => exact (Kd.R_reads' HO_10.out).2.1); rintro e w80 ⟨rfl, hb⟩; have n0_ := mk_ (Kd.R_below (rr_ HO_10) hb); have n1_ := mk_ (Kd.R_below (rr_ HO_12) hb); have n2_ := mk_ (blk_below (kk_ BK648) hb); have n3_ := mk_ (below_step (bs_ HB GE648.out) hb); clear HO_10 HO_12 BK648 HB; revert n0_ n1_ n2_ n3_; intro HO_10 HO_12 BK648 HB; (try clear hb); (try clear hb2); (try clear hk); (try clear hi)) | (go_at_call 31; (with_reducible refine (cohousingref05_Reduced.calls kj18 _ _ t656 t669 _ ?side1 ?side2 A44.out).mono ?_); (case side1 => exact cc_ ((Kd.R_reads' HO_10.out).2.2)); (case side2 => exact (Kd.R_reads' HO_10.out).2.1); rintro e w81 ⟨rfl, hb⟩; have n0_ := mk_ (Kd.R_below (rr_ HO_10) hb); have n1_ := mk_ (Kd.R_below (rr_ HO_12) hb); have n2_ := mk_ (blk_below (kk_ BK648) hb); have n3_ := mk_ (below_step (bs_ HB GE648.out) hb); clear HO_10 HO_12 BK648 HB; revert n0_ n1_ n2_ n3_; intro HO_10 HO_12 BK648 HB; (try clear hb); (try clear hb2); (try clear hk); (try clear hi); obtain ⟨Ao82, co82, eo82⟩ := Kd.R_slice HO_12.out; subst eo82) | (go_at_call 14; (with_reducible refine (piecewise_Valid.calls kj18 _ _ t660 true _ ?side1 ?side2 A46.out).mono ?_); (case side1 => exact cc_ ((Kd.R_reads' HO_12.out).2.2)); (case side2 => exact (Kd.R_reads' HO_12.out).2.1); rintro e w83 ⟨rfl, hb⟩; have n0_ := mk_ (Kd.R_below (rr_ HO_10) hb); have n1_ := mk_ (Kd.R_below (rr_ HO_12) hb); have n2_ := mk_ (blk_below (kk_ BK648) hb); have n3_ := mk_ (below_step (bs_ HB GE648.out) hb); clear HO_10 HO_12 BK648 HB; revert n0_ n1_ n2_ n3_; intro HO_10 HO_12 BK648 HB; (try clear hb); (try clear hb2); (try clear hk); (try clear hi)) | (go_at_call 15; (with_reducible refine (cohousingref05_Valid.calls kj18 _ _ t660 true _ ?side1 ?side2 A48.out).mono ?_); (case side1 => exact cc_ ((Kd.R_reads' HO_12.out).2.2)); (case side2 => exact (Kd.R_reads' HO_12.out).2.1); rintro e w84 ⟨rfl, hb⟩; have n0_ := mk_ (Kd.R_below (rr_ HO_10) hb); have n1_ := mk_ (Kd.R_below (rr_ HO_12) hb); have n2_ := mk_ (blk_below (kk_ BK648) hb); have n3_ := mk_ (below_step (bs_ HB GE648.out) hb); clear HO_10 HO_12 BK648 HB; revert n0_ n1_ n2_ n3_; intro HO_10 HO_12 BK648 HB; (try clear hb); (try clear hb2); (try clear hk); (try clear hi)) | (go_at_call 31; (with_reducible refine (cohousingref05_Reduced.calls kj18 _ _ t660 t672 _ ?side1 ?side2 A50.out).mono ?_); (case side1 => exact cc_ ((Kd.R_reads' HO_12.out).2.2)); (case side2 => exact (Kd.R_reads' HO_12.out).2.1); rintro e w85 ⟨rfl, hb⟩; have n0_ := mk_ (Kd.R_below (rr_ HO_10) hb); have n1_ := mk_ (Kd.R_below (rr_ HO_12) hb); have n2_ := mk_ (blk_below (kk_ BK648) hb); have n3_ := mk_ (below_step (bs_ HB GE648.out) hb); clear HO_10 HO_12 BK648 HB; revert n0_ n1_ n2_ n3_; intro HO_10 HO_12 BK648 HB; (try clear hb); (try clear hb2); (try clear hk); (try clear hi)))
      go_ret
      exact ⟨ew_, bs1_ HB GE648⟩
     subst c51
     have H1 : (if x14_18 = true then (if t669 = true then (some t672) else (some false)) else (some false)) = some r := by rw [if_pos rfl] at H; exact H
     clear H
     have H := H1
     clear H1
     by_cases c52 : x14_18 = true
     rotate_left
     ·replace c52 := Bool.eq_false_iff.mpr c52
      subst c52
      have H1 : (some false) = some r := by rw [if_neg (show ¬ (false = true) by decide)] at H; exact H
      clear H
      have H := H1
      clear H1
      obtain rfl := Option.some.inj H
      obtain ⟨Ao70, co70, eo70⟩ := Kd.R_slice HO_10.out
      subst eo70
      go_wp2_with (first | (go_at_call 14; (with_reducible refine (piecewise_Valid.calls kj18 _ _ t656 true _ ?side1 ?side2 A40.out).mono ?_); (case side1 => exact cc_ ((Kd.R_reads' HO_10.out).2.2)); (case side2 => exact (Kd.R_reads' HO_10.out).2.1); rintro e w71 ⟨rfl, hb⟩; have n0_ := mk_ (Kd.R_below (rr_ HO_10) hb); have n1_ := mk_ (Kd.R_below (rr_ HO_12) hb); have n2_ := mk_ (blk_below (kk_ BK648) hb); have n3_ := mk_ (below_step (bs_ HB GE648.out) hb); clear HO_10 HO_12 BK648 HB; revert n0_ n1_ n2_ n3_; intro HO_10 HO_12 BK648 HB; (try clear hb); (try clear hb2); (try clear hk); (try clear hi)) | (go_at_call 15; (with_reducible refine (cohousingref05_Valid.calls kj18 _ _ t656 true _ ?side1 ?side2 A42.out).mono ?_); (case side1 => exact cc_ ((Kd.R_reads' HO_10.out).2.2)); (case side2 => exact (Kd.R_reads' HO_10.out).2.1); rintro e w72 ⟨rfl, hb⟩; have n0_ := mk_ (Kd.R_below (rr_ HO_10) hb); have n1_ := mk_ (Kd.R_below (rr_ HO_12) hb); have n2_ := mk_ (blk_below (kk_ BK648) hb); have n3_ := mk_ (below_step (bs_ HB GE648.out) hb); clear HO_10 HO_12 BK648 HB; revert n0_ n1_ n2_ n3_; intro HO_10 HO_12 BK648 HB; (try clear hb); (try clear hb2); (try clear hk); (try clear hi)) | (go_at_call 31; (with_reducible refine (cohousingref05_Reduced.calls kj18 _ _ t656 t669 _ ?side1 ?side2 A44.out).mono ?_); (case side1 => exact cc_ ((Kd.R_reads' HO_10.out).2.2)); (case side2 => exact (Kd.R_reads' HO_10.out).2.1); rintro e w73 ⟨rfl, hb⟩; have n0_ := mk_ (Kd.R_below (rr_ HO_10) hb); have n1_ := mk_ (Kd.R_below (rr_ HO_12) hb); have n2_ := mk_ (blk_below (kk_ BK648) hb); have n3_ := mk_ (below_step (bs_ HB GE648.out) hb); clear HO_10 HO_12 BK648 HB; revert n0_ n1_ n2_ n3_; intro HO_10 HO_12 BK648 HB; (try clear hb); (try clear hb2); (try clear hk); (try clear hi); obtain ⟨Ao74, co74, eo74⟩ := Kd.R_slice HO_12.out; subst eo74) | (go_at_call 14; (with_reducible refine (piecewise_Valid.calls kj18 _ _ t660 true _ ?side1 ?side2 A46.out).mono ?_); (case side1 => exact cc_ ((Kd.R_reads' HO_12.out).2.2)); (case side2 => exact (Kd.R_reads' HO_12.out).2.1); rintro e w75 ⟨rfl, hb⟩; have n0_ := mk_ (Kd.R_below (rr_ HO_10) hb); have n1_ := mk_ (Kd.R_below (rr_ HO_12) hb); have n2_ := mk_ (blk_below (kk_ BK648) hb); have n3_ := mk_ (below_step (bs_ HB GE648.out) hb); clear HO_10 HO_12 BK648 HB; revert n0_ n1_ n2_ n3_; intro HO_10 HO_12 BK648 HB; (try clear hb); (try clear hb2); (try clear hk); (try clear hi)) | (go_at_call 15; (with_reducible refine (cohousingref05_Valid.calls kj18 _ _ t660 true _ ?side1 ?side2 A48.out).mono ?_); (case side1 => exact cc_ ((Kd.R_reads' HO_12.out).2.2)); (case side2 => exact (Kd.R_reads' HO_12.out).2.1); rintro e w76 ⟨rfl, hb⟩; have n0_ := mk_ (Kd.R_below (rr_ HO_10) hb); have n1_ := mk_ (Kd.R_below (rr_ HO_12) hb); have n2_ := mk_ (blk_below (kk_ BK648) hb); have n3_ := mk_ (below_step (bs_ HB GE648.out) hb); clear HO_10 HO_12 BK648 HB; revert n0_ n1_ n2_ n3_; intro HO_10 HO_12 BK648 HB; (try clear hb); (try clear hb2); (try clear hk); (try clear hi)) | (go_at_call 31; (with_reducible refine (cohousingref05_Reduced.calls kj18 _ _ t660 t672 _ ?side1 ?side2 A50.out).mono ?_); (case side1 => exact cc_ ((Kd.R_reads' HO_12.out).2.2)); (case side2 => exact (Kd.R_reads' HO_12.out).2.1); rintro e w77 ⟨rfl, hb⟩; have n0_ := mk_ (Kd.R_below (rr_ HO_10) hb); have n1_ := mk_ (Kd.R_below (rr_ HO_12) hb); have n2_ := mk_ (blk_below (kk_ BK648) hb); have n3_ := mk_ (below_step (bs_ HB GE648.out) hb); clear HO_10 HO_12 BK648 HB; revert n0_ n1_ n2_ n3_; intro HO_10 HO_12 BK648 HB; (try clear hb); (try clear hb2); (try clear hk); (try clear hi)))
      go_ret
      exact ⟨ew_, bs1_ HB GE648⟩
     subst c52
     have H1 : (if t669 = true then (some t672) else (some false)) = some r := by rw [if_pos rfl] at H; exact H
     clear H
     have H := H1
     clear H1
     by_cases c53 : t669 = true
     ·subst c53
      have H1 : (some t672) = some r := by rw [if_pos rfl] at H; exact H
      clear H
      have H := H1
      clear H1
      obtain rfl := Option.some.inj H
      obtain ⟨Ao54, co54, eo54⟩ := Kd.R_slice HO_10.out
      subst eo54
      go_wp2_with (first | (go_at_call 14; (with_reducible refine (piecewise_Valid.calls kj18 _ _ t656 true _ ?side1 ?side2 A40.out).mono ?_); (case side1 => exact cc_ ((Kd.R_reads' HO_10.out).2.2)); (case side2 => exact (Kd.R_reads' HO_10.out).2.1); rintro e w55 ⟨rfl, hb⟩; have n0_ := mk_ (Kd.R_below (rr_ HO_10) hb); have n1_ := mk_ (Kd.R_below (rr_ HO_12) hb); have n2_ := mk_ (blk_below (kk_ BK648) hb); have n3_ := mk_ (below_step (bs_ HB GE648.out) hb); clear HO_10 HO_12 BK648 HB; revert n0_ n1_ n2_ n3_; intro HO_10 HO_12 BK648 HB; (try clear hb); (try clear hb2); (try clear hk); (try clear hi)) | (go_at_call 15; (with_reducible refine (cohousingref05_Valid.calls kj18 _ _ t656 true _ ?side1 ?side2 A42.out).mono ?_); (case side1 => exact cc_ ((Kd.R_reads' HO_10.out).2.2)); (case side2 => exact (Kd.R_reads' HO_10.out).2.1); rintro e w56 ⟨rfl, hb⟩; have n0_ := mk_ (Kd.R_below (rr_ HO_10) hb); have n1_ := mk_ (Kd.R_below (rr_ HO_12) hb); have n2_ := mk_ (blk_below (kk_ BK648) hb); have n3_ := mk_ (below_step (bs_ HB GE648.out) hb); clear HO_10 HO_12 BK648 HB; revert n0_ n1_ n2_ n3_; intro HO_10 HO_12 BK648 HB; (try clear hb); (try clear hb2); (try clear hk); (try clear hi)) | (go_at_call 31; (with_reducible refine (cohousingref05_Reduced.calls kj18 _ _ t656 true _ ?side1 ?side2 A44.out).mono ?_); (case side1 => exact cc_ ((Kd.R_reads' HO_10.out).2.2)); (case side2 => exact (Kd.R_reads' HO_10.out).2.1); rintro e w57 ⟨rfl, hb⟩; have n0_ := mk_ (Kd.R_below (rr_ HO_10) hb); have n1_ := mk_ (Kd.R_below (rr_ HO_12) hb); have n2_ := mk_ (blk_below (kk_ BK648) hb); have n3_ := mk_ (below_step (bs_ HB GE648.out) hb); clear HO_10 HO_12 BK648 HB; revert n0_ n1_ n2_ n3_; intro HO_10 HO_12 BK648 HB; (try clear hb); (try clear hb2); (try clear hk); (try clear hi); obtain ⟨Ao58, co58, eo58⟩ := Kd.R_slice HO_12.out; subst eo58) | (go_at_call 14; (with_reducible refine (piecewise_Valid.calls kj18 _ _ t660 true _ ?side1 ?side2 A46.out).mono ?_); (case side1 => exact cc_ ((Kd.R_reads' HO_12.out).2.2)); (case side2 => exact (Kd.R_reads' HO_12.out).2.1); rintro e w59 ⟨rfl, hb⟩; have n0_ := mk_ (Kd.R_below (rr_ HO_10) hb); have n1_ := mk_ (Kd.R_below (rr_ HO_12) hb); have n2_ := mk_ (blk_below (kk_ BK648) hb); have n3_ := mk_ (below_step (bs_ HB GE648.out) hb); clear HO_10 HO_12 BK648 HB; revert n0_ n1_ n2_ n3_; intro HO_10 HO_12 BK648 HB; (try clear hb); (try clear hb2); (try clear hk); (try clear hi)) | (go_at_call 15; (with_reducible refine (cohousingref05_Valid.calls kj18 _ _ t660 true _ ?side1 ?side2 A48.out).mono ?_); (case side1 => exact cc_ ((Kd.R_reads' HO_12.out).2.2)); (case side2 => exact (Kd.R_reads' HO_12.out).2.1); rintro e w60 ⟨rfl, hb⟩; have n0_ := mk_ (Kd.R_below (rr_ HO_10) hb); have n1_ := mk_ (Kd.R_below (rr_ HO_12) hb); have n2_ := mk_ (blk_below (kk_ BK648) hb); have n3_ := mk_ (below_step (bs_ HB GE648.out) hb); clear HO_10 HO_12 BK648 HB; revert n0_ n1_ n2_ n3_; intro HO_10 HO_12 BK648 HB; (try clear hb); (try clear hb2); (try clear hk); (try clear hi)) | (go_at_call 31; (with_reducible refine (cohousingref05_Reduced.calls kj18 _ _ t660 t672 _ ?side1 ?side2 A50.out).mono ?_); (case side1 => exact cc_ ((Kd.R_reads' HO_12.out).2.2)); (case side2 => exact (Kd.R_reads' HO_12.out).2.1); rintro e w61 ⟨rfl, hb⟩; have n0_ := mk_ (Kd.R_below (rr_ HO_10) hb); have n1_ := mk_ (Kd.R_below (rr_ HO_12) hb); have n2_ := mk_ (blk_below (kk_ BK648) hb); have n3_ := mk_ (below_step (bs_ HB GE648.out) hb); clear HO_10 HO_12 BK648 HB; revert n0_ n1_ n2_ n3_; intro HO_10 HO_12 BK648 HB; (try clear hb); (try clear hb2); (try clear hk); (try clear hi)))
      go_ret
      exact ⟨ew_, bs1_ HB GE648⟩
     replace c53 := Bool.eq_false_iff.mpr c53
     subst c53
     have H1 : (some false) = some r := by rw [if_neg (show ¬ (false = true) by decide)] at H; exact H
     clear H
     have H := H1
     clear H1
     obtain rfl := Option.some.inj H
     obtain ⟨Ao62, co62, eo62⟩ := Kd.R_slice HO_10.out
     subst eo62
     go_wp2_with (first | (go_at_call 14; (with_reducible refine (piecewise_Valid.calls kj18 _ _ t656 true _ ?side1 ?side2 A40.out).mono ?_); (case side1 => exact cc_ ((Kd.R_reads' HO_10.out).2.2)); (case side2 => exact (Kd.R_reads' HO_10.out).2.1); rintro e w63 ⟨rfl, hb⟩; have n0_ := mk_ (Kd.R_below (rr_ HO_10) hb); have n1_ := mk_ (Kd.R_below (rr_ HO_12) hb); have n2_ := mk_ (blk_below (kk_ BK648) hb); have n3_ := mk_ (below_step (bs_ HB GE648.out) hb); clear HO_10 HO_12 BK648 HB; revert n0_ n1_ n2_ n3_; intro HO_10 HO_12 BK648 HB; (try clear hb); (try clear hb2); (try clear hk); (try clear hi)) | (go_at_call 15; (with_reducible refine (cohousingref05_Valid.calls kj18 _ _ t656 true _ ?side1 ?side2 A42.out).mono ?_); (case side1 => exact cc_ ((Kd.R_reads' HO_10.out).2.2)); (case side2 => exact (Kd.R_reads' HO_10.out).2.1); rintro e w64 ⟨rfl, hb⟩; have n0_ := mk_ (Kd.R_below (rr_ HO_10) hb); have n1_ := mk_ (Kd.R_below (rr_ HO_12) hb); have n2_ := mk_ (blk_below (kk_ BK648) hb); have n3_ := mk_ (below_step (bs_ HB GE648.out) hb); clear HO_10 HO_12 BK648 HB; revert n0_ n1_ n2_ n3_; intro HO_10 HO_12 BK648 HB; (try clear hb); (try clear hb2); (try clear hk); (try clear hi)) | (go_at_call 31; (with_reducible refine (cohousingref05_Reduced.calls kj18 _ _ t656 false _ ?side1 ?side2 A44.out).mono ?_); (case side1 => exact cc_ ((Kd.R_reads' HO_10.out).2.2)); (case side2 => exact (Kd.R_reads' HO_10.out).2.1); rintro e w65 ⟨rfl, hb⟩; have n0_ := mk_ (Kd.R_below (rr_ HO_10) hb); have n1_ := mk_ (Kd.R_below (rr_ HO_12) hb); have n2_ := mk_ (blk_below (kk_ BK648) hb); have n3_ := mk_ (below_step (bs_ HB GE648.out) hb); clear HO_10 HO_12 BK648 HB; revert n0_ n1_ n2_ n3_; intro HO_10 HO_12 BK648 HB; (try clear hb); (try clear hb2); (try clear hk); (try clear hi); obtain ⟨Ao66, co66, eo66⟩ := Kd.R_slice HO_12.out; subst eo66) | (go_at_call 14; (with_reducible refine (piecewise_Valid.calls kj18 _ _ t660 true _ ?side1 ?side2 A46.out).mono ?_); (case side1 => exact cc_ ((Kd.R_reads' HO_12.out).2.2)); (case side2 => exact (Kd.R_reads' HO_12.out).2.1); rintro e w67 ⟨rfl, hb⟩; have n0_ := mk_ (Kd.R_below (rr_ HO_10) hb); have n1_ := mk_ (Kd.R_below (rr_ HO_12) hb); have n2_ := mk_ (blk_below (kk_ BK648) hb); have n3_ := mk_ (below_step (bs_ HB GE648.out) hb); clear HO_10 HO_12 BK648 HB; revert n0_ n1_ n2_ n3_; intro HO_10 HO_12 BK648 HB; (try clear hb); (try clear hb2); (try clear hk); (try clear hi)) | (go_at_call 15; (with_reducible refine (cohousingref05_Valid.calls kj18 _ _ t660 true _ ?side1 ?side2 A48.out).mono ?_); (case side1 => exact cc_ ((Kd.R_reads' HO_12.out).2.2)); (case side2 => exact (Kd.R_reads' HO_12.out).2.1); rintro e w68 ⟨rfl, hb⟩; have n0_ := mk_ (Kd.R_below (rr_ HO_10) hb); have n1_ := mk_ (Kd.R_below (rr_ HO_12) hb); have n2_ := mk_ (blk_below (kk_ BK648) hb); have n3_ := mk_ (below_step (bs_ HB GE648.out) hb); clear HO_10 HO_12 BK648 HB; revert n0_ n1_ n2_ n3_; intro HO_10 HO_12 BK648 HB; (try clear hb); (try clear hb2); (try clear hk); (try clear hi)) | (go_at_call 31; (with_reducible refine (cohousingref05_Reduced.calls kj18 _ _ t660 t672 _ ?side1 ?side2 A50.out).mono ?_); (case side1 => exact cc_ ((Kd.R_reads' HO_12.out).2.2)); (case side2 => exact (Kd.R_reads' HO_12.out).2.1); rintro e w69 ⟨rfl, hb⟩; have n0_ := mk_ (Kd.R_below (rr_ HO_10) hb); have n1_ := mk_ (Kd.R_below (rr_ HO_12) hb); have n2_ := mk_ (blk_below (kk_ BK648) hb); have n3_ := mk_ (below_step (bs_ HB GE648.out) hb); clear HO_10 HO_12 BK648 HB; revert n0_ n1_ n2_ n3_; intro HO_10 HO_12 BK648 HB; (try clear hb); (try clear hb2); (try clear hk); (try clear hi)))
     go_ret
     exact ⟨ew_, bs1_ HB GE648⟩
end
end Go.Proofs.Ytmhimmodigeeiaa.P
end
