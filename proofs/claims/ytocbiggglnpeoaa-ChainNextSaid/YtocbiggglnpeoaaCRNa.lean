/- Part 1 of the proof of ChainNext: what it alone needs. -/
import Derived.Test.YtocbiggglnpeoaaCRj
set_option linter.unusedVariables false
set_option linter.unusedSimpArgs false
section
namespace Go.Proofs.Ytocbiggglnpeoaa.P
open Go.RowKit Go.Proofs.YtocbiggglnpeoaaW.PrintWords Go.Proofs.YtocbiggglnpeoaaW.PrintLast Go.Proofs.YtocbiggglnpeoaaW.PrintMore
attribute [local go_sem] max2_int min2_int max_two min_two max_three min_three max_four min_four
set_option linter.unusedVariables false
set_option linter.unusedSimpArgs false
set_option maxHeartbeats 8000000
set_option maxRecDepth 100000
section
mutual
def cohousinglaw26_ChainNext.j0 : Nat → List (S51) → List Int → Bool → Bool → List (S84) → List (S46) → Option (Bool)
 | 0, _, _, _, _, _, _ => none
 | k + 1, x1, x2, x7, x36, x524000, x524001 => if x36 = true then (some x7) else ((chain_Next.f x524000 x524001 ([] : List (S51)) ([] : List Int)).bind fun bt527 => (if bt527.2.2 = 0 then ((cohousingref23_Same.f k bt527.1 bt527.2.1 x524000 x524001).bind fun t535 => (cohousinglaw26_ChainNext.j1 k x1 x2 x7 (!t535) x524000 x524001)) else (cohousinglaw26_ChainNext.j1 k x1 x2 x7 true x524000 x524001)))
def cohousinglaw26_ChainNext.j1 : Nat → List (S51) → List Int → Bool → Bool → List (S84) → List (S46) → Option (Bool)
 | 0, _, _, _, _, _, _ => none
 | k + 1, x1, x2, x7, x50, x524000, x524001 => if x50 = true then (some false) else ((chain_Next.f x524000 x524001 x1 x2).bind fun bt536 => (if bt536.2.2 = 0 then ((market_Valid.f bt536.1 bt536.2.1).bind fun t544 => (if t544 = true then (cohousinglaw26_ChainNext.j2 k x1 x2 x7 ((bt536.2.1.length : Int) != (wrap64 ((x524001.length : Int) - (x2.length : Int)))) x524000 x524001 bt536.1 bt536.2.1) else (cohousinglaw26_ChainNext.j2 k x1 x2 x7 true x524000 x524001 bt536.1 bt536.2.1))) else (if x7 = true then (some ((wrap64 ((bt536.2.1.length : Int) + (bt536.1.length : Int))) == 0)) else (some false))))
def cohousinglaw26_ChainNext.j2 : Nat → List (S51) → List Int → Bool → Bool → List (S84) → List (S46) → List (S84) → List (S46) → Option (Bool)
 | 0, _, _, _, _, _, _, _, _ => none
 | k + 1, x1, x2, x7, x85, x524000, x524001, x544000, x544001 => if x85 = true then (some false) else (cohousinglaw26_ChainNext.l0 k x1 x2 x7 0 0 x524000 x524001 x544000 x544001)
def cohousinglaw26_ChainNext.l0 : Nat → List (S51) → List Int → Bool → Int → Int → List (S84) → List (S46) → List (S84) → List (S46) → Option (Bool)
 | 0, _, _, _, _, _, _, _, _, _ => none
 | k + 1, x1, x2, x7, x12, x13, x524000, x524001, x544000, x544001 => if x13 < (x524001.length : Int) then (if 0 ≤ x13 then ((cohousingref23_In.f k x2 ((rd_T46 x524001 x13).f0)).bind fun t547 => (if t547 ≥ 0 then (cohousinglaw26_ChainNext.l0 k x1 x2 x7 x12 (wrap64 (x13 + 1)) x524000 x524001 x544000 x544001) else (cohousinglaw26_ChainNext.l1 k x1 x2 x7 x12 x13 ((rd_T46 x524001 x13).f1) 0 x524000 x524001 x544000 x544001 ((rd_T46 x524001 x13).f0) ((rd_T46 x524001 x13).f1) ((rd_T46 x524001 x13).f2)))) else (none)) else (some x7)
def cohousinglaw26_ChainNext.l1 : Nat → List (S51) → List Int → Bool → Int → Int → Int → Int → List (S84) → List (S46) → List (S84) → List (S46) → Int → Int → List Int → Option (Bool)
 | 0, _, _, _, _, _, _, _, _, _, _, _, _, _, _ => none
 | k + 1, x1, x2, x7, x12, x13, x15, x16, x524000, x524001, x544000, x544001, x547000, x547001, x547002 => if x16 < (x1.length : Int) then (if 0 ≤ x16 then (if ((rd_T51 x1 x16).f0) = x547000 then (cohousinglaw26_ChainNext.l1 k x1 x2 x7 x12 x13 ((rd_T51 x1 x16).f2) (wrap64 (x16 + 1)) x524000 x524001 x544000 x544001 x547000 x547001 x547002) else (cohousinglaw26_ChainNext.l1 k x1 x2 x7 x12 x13 x15 (wrap64 (x16 + 1)) x524000 x524001 x544000 x544001 x547000 x547001 x547002)) else (none)) else (if 0 ≤ x12 then (if x12 < (x544001.length : Int) then (if ((rd_T46 x544001 x12).f0) = x547000 then (if ((rd_T46 x544001 x12).f1) = x15 then ((cohousingref23_SameInts.f k ((rd_T46 x544001 x12).f2) x547002).bind fun t552 => (if t552 = true then (cohousinglaw26_ChainNext.l0 k x1 x2 x7 (wrap64 (x12 + 1)) (wrap64 (x13 + 1)) x524000 x524001 x544000 x544001) else (some false))) else (some false)) else (some false)) else (none)) else (none))
end
def cohousinglaw26_ChainNext.f (k : Nat) (l0_0 : List (S84)) (l0_1 : List (S46)) (l1 : List (S51)) (l2 : List Int) : Option (Bool) := (cohousinglaw26_head.f k).bind fun t524 => ((cohousingref23_Few.f k l0_0 l0_1).bind fun t525 => (if t525 = true then ((cohousingref23_Valid.f k l0_0 l0_1).bind fun t526 => (if t526 = true then (if (l1.length : Int) > 30 then (cohousinglaw26_ChainNext.j0 k l1 l2 t524 true l0_0 l0_1) else (cohousinglaw26_ChainNext.j0 k l1 l2 t524 (decide ((l2.length : Int) > 30)) l0_0 l0_1)) else (cohousinglaw26_ChainNext.j0 k l1 l2 t524 true l0_0 l0_1))) else (cohousinglaw26_ChainNext.j0 k l1 l2 t524 true l0_0 l0_1)))
theorem cohousinglaw26_ChainNext.calls (k : Nat) (A0_0 : Option Addr) (c0_0 : Nat) (l0_0 : List (S84)) (A0_1 : Option Addr) (c0_1 : Nat) (l0_1 : List (S46)) (A1 : Option Addr) (c1 : Nat) (l1 : List (S51)) (A2 : Option Addr) (c2 : Nat) (l2 : List Int) (r : Bool) (w : World) (hr0_0 : Kd.C k84 w A0_0 l0_0.length l0_0) (hc0_0 : l0_0.length ≤ c0_0) (hr0_1 : Kd.C k46 w A0_1 l0_1.length l0_1) (hc0_1 : l0_1.length ≤ c0_1) (hr1 : Kd.C k51 w A1 l1.length l1) (hc1 : l1.length ≤ c1) (hr2 : Kd.C (Kd.int .i64) w A2 l2.length l2) (hc2 : l2.length ≤ c2) (h : cohousinglaw26_ChainNext.f k l0_0 l0_1 l1 l2 = some r) :
  Calls Try.prog 8 #[.agg #[.slice A0_0 l0_0.length c0_0, .slice A0_1 l0_1.length c0_1], .slice A1 l1.length c1, .slice A2 l2.length c2] w fun e w' => e = .returned (.bool r) ∧ Below w.heap.size w w' := by
 have hu25 := Try.underlying25
 have hu46 := Try.underlying46
 have HR0_0 := Aside0.mk hr0_0
 have HC0_0 := Aside0.mk hc0_0
 clear hr0_0 hc0_0
 have HR0_1 := Aside0.mk hr0_1
 have HC0_1 := Aside0.mk hc0_1
 clear hr0_1 hc0_1
 have HR1 := Aside0.mk hr1
 have HC1 := Aside0.mk hc1
 clear hr1 hc1
 have HR2 := Aside0.mk hr2
 have HC2 := Aside0.mk hc2
 clear hr2 hc2
 have HB := Aside0.mk (Below.refl w.heap.size w)
 have H : ((cohousinglaw26_head.f k).bind fun t524 => ((cohousingref23_Few.f k l0_0 l0_1).bind fun t525 => (if t525 = true then ((cohousingref23_Valid.f k l0_0 l0_1).bind fun t526 => (if t526 = true then (if (l1.length : Int) > 30 then (cohousinglaw26_ChainNext.j0 k l1 l2 t524 true l0_0 l0_1) else (cohousinglaw26_ChainNext.j0 k l1 l2 t524 (decide ((l2.length : Int) > 30)) l0_0 l0_1)) else (cohousinglaw26_ChainNext.j0 k l1 l2 t524 true l0_0 l0_1))) else (cohousinglaw26_ChainNext.j0 k l1 l2 t524 true l0_0 l0_1)))) = some r := h
 clear h
 replace H := Option.bind_eq_some_iff.mp H
 obtain ⟨t524, A40, H⟩ := H
 replace H : ((cohousingref23_Few.f k l0_0 l0_1).bind fun t525 => (if t525 = true then ((cohousingref23_Valid.f k l0_0 l0_1).bind fun t526 => (if t526 = true then (if (l1.length : Int) > 30 then (cohousinglaw26_ChainNext.j0 k l1 l2 t524 true l0_0 l0_1) else (cohousinglaw26_ChainNext.j0 k l1 l2 t524 (decide ((l2.length : Int) > 30)) l0_0 l0_1)) else (cohousinglaw26_ChainNext.j0 k l1 l2 t524 true l0_0 l0_1))) else (cohousinglaw26_ChainNext.j0 k l1 l2 t524 true l0_0 l0_1))) = some r := H
 have A4 := Aside0.mk A40
 clear A40
 have HC5 := Aside0.mk H
 clear H
 go_enter Try.func8, Try.ntmps8
 go_upto_region 2 with (first | ((with_reducible refine gate_dst (N := 3) rfl ?_); (try (refine gate_guard (by rfl) ?_; dsimp only)); refine box_event ?hg (N := 3) ?hd (cs := #[.slice A0_0 l0_0.length c0_0, .slice A0_1 l0_1.length c0_1]) (t := 25) ?hr ?_; (case hd => rfl); (case hg => rfl); (case hr => first | (go_simp; done) | (go_simp; rfl)); intro gb523 hg w6 hbox hb; have n0_ := Aside0.mk (below_step (bb_ HB) hb); have n1_ := Aside0.mk (hbox); have n2_ := Aside0.mk ((by rw [hg]; exact (below_size (bb_ HB)) : w.heap.size ≤ gb523)); have n3_ := Aside0.mk ((by rw [hg]; exact (below_size (bb_ HB)) : w.heap.size ≤ gb523)); clear HB; have HB := n0_; have BK523 := n1_; have GW523 := n2_; have GE523 := n3_; clear n0_ n1_ n2_ n3_; clear hb hbox hg) | (go_at_call 10; (with_reducible refine (cohousinglaw26_head.calls k  t524 _ A4.out).mono ?_); rintro e w7 ⟨rfl, hb⟩; have n0_ := Aside0.mk (blk_below (g := gb523) (o := .cells #[.slice A0_0 l0_0.length c0_0, .slice A0_1 l0_1.length c0_1] 25 (0, 0)) (kk_ BK523) hb); have n1_ := Aside0.mk (below_step (bs_ HB GE523.out) hb); clear BK523; clear HB; have BK523 := n0_; have HB := n1_; clear n0_ n1_; (try clear hb); (try clear hb2); (try clear hk); (try clear hi)))
 (try simp only [Act.put, sI_, s0_, sS_])
 go_cut [36] (fun v36 wc => ∃ (kq : Nat) (x36_4 : Bool), v36 = .bool x36_4 ∧ Aside0 (cohousinglaw26_ChainNext.j0 kq l1 l2 t524 x36_4 l0_0 l0_1 = some r) ∧ Aside0 (kq ≤ k) ∧ Aside0 (wc.heap[gb523]? = some (.cells #[(.slice A0_0 l0_0.length c0_0), (.slice A0_1 l0_1.length c0_1)] 25 (0, 0))) ∧ Aside0 (Below w.heap.size w wc))
 case first =>
  have H := HC5.out
  clear HC5
  replace H := Option.bind_eq_some_iff.mp H
  obtain ⟨t525, A80, H⟩ := H
  replace H : (if t525 = true then ((cohousingref23_Valid.f k l0_0 l0_1).bind fun t526 => (if t526 = true then (if (l1.length : Int) > 30 then (cohousinglaw26_ChainNext.j0 k l1 l2 t524 true l0_0 l0_1) else (cohousinglaw26_ChainNext.j0 k l1 l2 t524 (decide ((l2.length : Int) > 30)) l0_0 l0_1)) else (cohousinglaw26_ChainNext.j0 k l1 l2 t524 true l0_0 l0_1))) else (cohousinglaw26_ChainNext.j0 k l1 l2 t524 true l0_0 l0_1)) = some r := H
  have A8 := Aside0.mk A80
  clear A80
  by_cases c9 : t525 = true
  ·subst c9
   have H1 : ((cohousingref23_Valid.f k l0_0 l0_1).bind fun t526 => (if t526 = true then (if (l1.length : Int) > 30 then (cohousinglaw26_ChainNext.j0 k l1 l2 t524 true l0_0 l0_1) else (cohousinglaw26_ChainNext.j0 k l1 l2 t524 (decide ((l2.length : Int) > 30)) l0_0 l0_1)) else (cohousinglaw26_ChainNext.j0 k l1 l2 t524 true l0_0 l0_1))) = some r := by rw [if_pos rfl] at H; exact H
   clear H
   have H := H1
   clear H1
   replace H := Option.bind_eq_some_iff.mp H
   obtain ⟨t526, A100, H⟩ := H
   replace H : (if t526 = true then (if (l1.length : Int) > 30 then (cohousinglaw26_ChainNext.j0 k l1 l2 t524 true l0_0 l0_1) else (cohousinglaw26_ChainNext.j0 k l1 l2 t524 (decide ((l2.length : Int) > 30)) l0_0 l0_1)) else (cohousinglaw26_ChainNext.j0 k l1 l2 t524 true l0_0 l0_1)) = some r := H
   have A10 := Aside0.mk A100
   clear A100
   by_cases c11 : t526 = true
   ·subst c11
    have H1 : (if (l1.length : Int) > 30 then (cohousinglaw26_ChainNext.j0 k l1 l2 t524 true l0_0 l0_1) else (cohousinglaw26_ChainNext.j0 k l1 l2 t524 (decide ((l2.length : Int) > 30)) l0_0 l0_1)) = some r := by rw [if_pos rfl] at H; exact H
    clear H
    have H := H1
    clear H1
    by_cases c12 : (l1.length : Int) > 30
    ·rw [if_pos c12] at H
     have c12b0 : decide (30 < (l1.length : Int)) = true := decide_eq_true c12
     have c12b1 : decide (30 < l1.length) = true := decide_eq_true (by omega)
     clear c12
     (first | rw [c12b0] | (simp only [i64_w, i32_w]; rw [c12b0]) | skip)
     have H' := Aside0.mk H
     clear H
     have hcz13_0 : w7.cell? ⟨gb523, 0, none⟩ = some (.slice A0_0 l0_0.length c0_0) := (blk_cell BK523.out 0).trans rfl
     have hcz13_1 : w7.cell? ⟨gb523, 1, none⟩ = some (.slice A0_1 l0_1.length c0_1) := (blk_cell BK523.out 1).trans rfl
     have hfz13_0 := blk_frozen BK523.out 0
     have hfz13_1 := blk_frozen BK523.out 1
     go_wp2_with (first | (go_at_call 11; (with_reducible refine (cohousingref23_Few.calls k _ _ l0_0 _ _ l0_1 true _ ?side1 ?side2 ?side3 ?side4 A8.out).mono ?_); (case side1 => exact cc_ ((Kd.C_below HR0_0.out HB.out))); (case side2 => exact HC0_0.out); (case side3 => exact cc_ ((Kd.C_below HR0_1.out HB.out))); (case side4 => exact HC0_1.out); rintro e w14 ⟨rfl, hb⟩; have n0_ := Aside0.mk (blk_below (g := gb523) (o := .cells #[.slice A0_0 l0_0.length c0_0, .slice A0_1 l0_1.length c0_1] 25 (0, 0)) (kk_ BK523) hb); have n1_ := Aside0.mk (below_step (bs_ HB GE523.out) hb); clear BK523; clear HB; have BK523 := n0_; have HB := n1_; clear n0_ n1_; (try clear hb); (try clear hb2); (try clear hk); (try clear hi); have hcz15_0 : w14.cell? ⟨gb523, 0, none⟩ = some (.slice A0_0 l0_0.length c0_0) := (blk_cell BK523.out 0).trans rfl; have hcz15_1 : w14.cell? ⟨gb523, 1, none⟩ = some (.slice A0_1 l0_1.length c0_1) := (blk_cell BK523.out 1).trans rfl; have hfz15_0 := blk_frozen BK523.out 0; have hfz15_1 := blk_frozen BK523.out 1) | (go_at_call 25; (with_reducible refine (cohousingref23_Valid.calls k _ _ l0_0 _ _ l0_1 true _ ?side1 ?side2 ?side3 ?side4 A10.out).mono ?_); (case side1 => exact cc_ ((Kd.C_below HR0_0.out HB.out))); (case side2 => exact HC0_0.out); (case side3 => exact cc_ ((Kd.C_below HR0_1.out HB.out))); (case side4 => exact HC0_1.out); rintro e w16 ⟨rfl, hb⟩; have n0_ := Aside0.mk (blk_below (g := gb523) (o := .cells #[.slice A0_0 l0_0.length c0_0, .slice A0_1 l0_1.length c0_1] 25 (0, 0)) (kk_ BK523) hb); have n1_ := Aside0.mk (below_step (bs_ HB GE523.out) hb); clear BK523; clear HB; have BK523 := n0_; have HB := n1_; clear n0_ n1_; (try clear hb); (try clear hb2); (try clear hk); (try clear hi)))
     go_meet
     case rel => exact ⟨_, (true), sd_, H', ⟨by first | omega | exact Nat.le_refl _⟩, ⟨by (with_reducible repeat (first | refine blk_drewN ?_ _ | refine blk_drew ?_ | refine blk_alloc ?_ _)); exact BK523.out⟩, ⟨by repeat (first | (with_reducible first | exact HB.out | apply below_alloc | apply pw_below_drewN | apply below_drew1 | refine below_set ?_ GE523.out) | exact HB.out)⟩⟩
    ·rw [if_neg c12] at H
     have c12b0 : decide (30 < (l1.length : Int)) = false := decide_eq_false c12
     have c12b1 : decide (30 < l1.length) = false := decide_eq_false (by omega)
     clear c12
     (first | rw [c12b0] | (simp only [i64_w, i32_w]; rw [c12b0]) | skip)
     have H' := Aside0.mk H
     clear H
     have hcz17_0 : w7.cell? ⟨gb523, 0, none⟩ = some (.slice A0_0 l0_0.length c0_0) := (blk_cell BK523.out 0).trans rfl
     have hcz17_1 : w7.cell? ⟨gb523, 1, none⟩ = some (.slice A0_1 l0_1.length c0_1) := (blk_cell BK523.out 1).trans rfl
     have hfz17_0 := blk_frozen BK523.out 0
     have hfz17_1 := blk_frozen BK523.out 1
     go_wp2_with (first | (go_at_call 11; (with_reducible refine (cohousingref23_Few.calls k _ _ l0_0 _ _ l0_1 true _ ?side1 ?side2 ?side3 ?side4 A8.out).mono ?_); (case side1 => exact cc_ ((Kd.C_below HR0_0.out HB.out))); (case side2 => exact HC0_0.out); (case side3 => exact cc_ ((Kd.C_below HR0_1.out HB.out))); (case side4 => exact HC0_1.out); rintro e w18 ⟨rfl, hb⟩; have n0_ := Aside0.mk (blk_below (g := gb523) (o := .cells #[.slice A0_0 l0_0.length c0_0, .slice A0_1 l0_1.length c0_1] 25 (0, 0)) (kk_ BK523) hb); have n1_ := Aside0.mk (below_step (bs_ HB GE523.out) hb); clear BK523; clear HB; have BK523 := n0_; have HB := n1_; clear n0_ n1_; (try clear hb); (try clear hb2); (try clear hk); (try clear hi); have hcz19_0 : w18.cell? ⟨gb523, 0, none⟩ = some (.slice A0_0 l0_0.length c0_0) := (blk_cell BK523.out 0).trans rfl; have hcz19_1 : w18.cell? ⟨gb523, 1, none⟩ = some (.slice A0_1 l0_1.length c0_1) := (blk_cell BK523.out 1).trans rfl; have hfz19_0 := blk_frozen BK523.out 0; have hfz19_1 := blk_frozen BK523.out 1) | (go_at_call 25; (with_reducible refine (cohousingref23_Valid.calls k _ _ l0_0 _ _ l0_1 true _ ?side1 ?side2 ?side3 ?side4 A10.out).mono ?_); (case side1 => exact cc_ ((Kd.C_below HR0_0.out HB.out))); (case side2 => exact HC0_0.out); (case side3 => exact cc_ ((Kd.C_below HR0_1.out HB.out))); (case side4 => exact HC0_1.out); rintro e w20 ⟨rfl, hb⟩; have n0_ := Aside0.mk (blk_below (g := gb523) (o := .cells #[.slice A0_0 l0_0.length c0_0, .slice A0_1 l0_1.length c0_1] 25 (0, 0)) (kk_ BK523) hb); have n1_ := Aside0.mk (below_step (bs_ HB GE523.out) hb); clear BK523; clear HB; have BK523 := n0_; have HB := n1_; clear n0_ n1_; (try clear hb); (try clear hb2); (try clear hk); (try clear hi)))
     go_meet
     case rel => exact ⟨_, (decide ((l2.length : Int) > 30)), sd_, H', ⟨by first | omega | exact Nat.le_refl _⟩, ⟨by (with_reducible repeat (first | refine blk_drewN ?_ _ | refine blk_drew ?_ | refine blk_alloc ?_ _)); exact BK523.out⟩, ⟨by repeat (first | (with_reducible first | exact HB.out | apply below_alloc | apply pw_below_drewN | apply below_drew1 | refine below_set ?_ GE523.out) | exact HB.out)⟩⟩
   ·replace c11 := Bool.eq_false_iff.mpr c11
    subst c11
    have H1 : (cohousinglaw26_ChainNext.j0 k l1 l2 t524 true l0_0 l0_1) = some r := by rw [if_neg (show ¬ (false = true) by decide)] at H; exact H
    clear H
    have H := H1
    clear H1
    have H' := Aside0.mk H
    clear H
    have hcz21_0 : w7.cell? ⟨gb523, 0, none⟩ = some (.slice A0_0 l0_0.length c0_0) := (blk_cell BK523.out 0).trans rfl
    have hcz21_1 : w7.cell? ⟨gb523, 1, none⟩ = some (.slice A0_1 l0_1.length c0_1) := (blk_cell BK523.out 1).trans rfl
    have hfz21_0 := blk_frozen BK523.out 0
    have hfz21_1 := blk_frozen BK523.out 1
    go_wp2_with (first | (go_at_call 11; (with_reducible refine (cohousingref23_Few.calls k _ _ l0_0 _ _ l0_1 true _ ?side1 ?side2 ?side3 ?side4 A8.out).mono ?_); (case side1 => exact cc_ ((Kd.C_below HR0_0.out HB.out))); (case side2 => exact HC0_0.out); (case side3 => exact cc_ ((Kd.C_below HR0_1.out HB.out))); (case side4 => exact HC0_1.out); rintro e w22 ⟨rfl, hb⟩; have n0_ := Aside0.mk (blk_below (g := gb523) (o := .cells #[.slice A0_0 l0_0.length c0_0, .slice A0_1 l0_1.length c0_1] 25 (0, 0)) (kk_ BK523) hb); have n1_ := Aside0.mk (below_step (bs_ HB GE523.out) hb); clear BK523; clear HB; have BK523 := n0_; have HB := n1_; clear n0_ n1_; (try clear hb); (try clear hb2); (try clear hk); (try clear hi); have hcz23_0 : w22.cell? ⟨gb523, 0, none⟩ = some (.slice A0_0 l0_0.length c0_0) := (blk_cell BK523.out 0).trans rfl; have hcz23_1 : w22.cell? ⟨gb523, 1, none⟩ = some (.slice A0_1 l0_1.length c0_1) := (blk_cell BK523.out 1).trans rfl; have hfz23_0 := blk_frozen BK523.out 0; have hfz23_1 := blk_frozen BK523.out 1) | (go_at_call 25; (with_reducible refine (cohousingref23_Valid.calls k _ _ l0_0 _ _ l0_1 false _ ?side1 ?side2 ?side3 ?side4 A10.out).mono ?_); (case side1 => exact cc_ ((Kd.C_below HR0_0.out HB.out))); (case side2 => exact HC0_0.out); (case side3 => exact cc_ ((Kd.C_below HR0_1.out HB.out))); (case side4 => exact HC0_1.out); rintro e w24 ⟨rfl, hb⟩; have n0_ := Aside0.mk (blk_below (g := gb523) (o := .cells #[.slice A0_0 l0_0.length c0_0, .slice A0_1 l0_1.length c0_1] 25 (0, 0)) (kk_ BK523) hb); have n1_ := Aside0.mk (below_step (bs_ HB GE523.out) hb); clear BK523; clear HB; have BK523 := n0_; have HB := n1_; clear n0_ n1_; (try clear hb); (try clear hb2); (try clear hk); (try clear hi)))
    go_meet
    case rel => exact ⟨_, (true), sd_, H', ⟨by first | omega | exact Nat.le_refl _⟩, ⟨by (with_reducible repeat (first | refine blk_drewN ?_ _ | refine blk_drew ?_ | refine blk_alloc ?_ _)); exact BK523.out⟩, ⟨by repeat (first | (with_reducible first | exact HB.out | apply below_alloc | apply pw_below_drewN | apply below_drew1 | refine below_set ?_ GE523.out) | exact HB.out)⟩⟩
  ·replace c9 := Bool.eq_false_iff.mpr c9
   subst c9
   have H1 : (cohousinglaw26_ChainNext.j0 k l1 l2 t524 true l0_0 l0_1) = some r := by rw [if_neg (show ¬ (false = true) by decide)] at H; exact H
   clear H
   have H := H1
   clear H1
   have H' := Aside0.mk H
   clear H
   have hcz25_0 : w7.cell? ⟨gb523, 0, none⟩ = some (.slice A0_0 l0_0.length c0_0) := (blk_cell BK523.out 0).trans rfl
   have hcz25_1 : w7.cell? ⟨gb523, 1, none⟩ = some (.slice A0_1 l0_1.length c0_1) := (blk_cell BK523.out 1).trans rfl
   have hfz25_0 := blk_frozen BK523.out 0
   have hfz25_1 := blk_frozen BK523.out 1
   go_wp2_with (first | (go_at_call 11; (with_reducible refine (cohousingref23_Few.calls k _ _ l0_0 _ _ l0_1 false _ ?side1 ?side2 ?side3 ?side4 A8.out).mono ?_); (case side1 => exact cc_ ((Kd.C_below HR0_0.out HB.out))); (case side2 => exact HC0_0.out); (case side3 => exact cc_ ((Kd.C_below HR0_1.out HB.out))); (case side4 => exact HC0_1.out); rintro e w26 ⟨rfl, hb⟩; have n0_ := Aside0.mk (blk_below (g := gb523) (o := .cells #[.slice A0_0 l0_0.length c0_0, .slice A0_1 l0_1.length c0_1] 25 (0, 0)) (kk_ BK523) hb); have n1_ := Aside0.mk (below_step (bs_ HB GE523.out) hb); clear BK523; clear HB; have BK523 := n0_; have HB := n1_; clear n0_ n1_; (try clear hb); (try clear hb2); (try clear hk); (try clear hi)))
   go_meet
   case rel => exact ⟨_, (true), sd_, H', ⟨by first | omega | exact Nat.le_refl _⟩, ⟨by (with_reducible repeat (first | refine blk_drewN ?_ _ | refine blk_drew ?_ | refine blk_alloc ?_ _)); exact BK523.out⟩, ⟨by repeat (first | (with_reducible first | exact HB.out | apply below_alloc | apply pw_below_drewN | apply below_drew1 | refine below_set ?_ GE523.out) | exact HB.out)⟩⟩
 case rest =>
  clear HC5
  try clear c1
  try clear c2
  try clear p2
  try clear c8
  try clear c9
  try clear c11
  try clear c12
  try clear c12b0
  try clear c12b1
  try clear hcz13_0
  try clear hcz13_1
  try clear hcz15_0
  try clear hcz15_1
  try clear hcz17_0
  try clear hcz17_1
  try clear hcz19_0
  try clear hcz19_1
  try clear hcz21_0
  try clear hcz21_1
  try clear hcz23_0
  try clear hcz23_1
  try clear hcz25_0
  try clear hcz25_1
  try clear hfz13_0
  try clear hfz13_1
  try clear hfz15_0
  try clear hfz15_1
  try clear hfz17_0
  try clear hfz17_1
  try clear hfz19_0
  try clear hfz19_1
  try clear hfz21_0
  try clear hfz21_1
  try clear hfz23_0
  try clear hfz23_1
  try clear hfz25_0
  try clear hfz25_1
  obtain ⟨kq, x36_4, rfl, HA, HJ4, BK523, HB⟩ := hcut
  cases kq with
  | zero => exact absurd HA.out (by simp [cohousinglaw26_ChainNext.j0])
  | succ kj4 =>
   have H := HA.out
   clear HA
   simp only [cohousinglaw26_ChainNext.j0] at H
   by_cases c27 : x36_4 = true
   ·subst c27
    have H1 : (some t524) = some r := by rw [if_pos rfl] at H; exact H
    clear H
    have H := H1
    clear H1
    obtain rfl := Option.some.inj H
    go_wp2
    repeat (go_quiet (fail); try go_wp2)
    go_ret
    exact ⟨ew_, by repeat (first | (with_reducible first | exact HB.out | apply below_alloc | apply pw_below_drewN | apply below_drew1 | refine below_set ?_ GE523.out) | exact HB.out)⟩
   ·replace c27 := Bool.eq_false_iff.mpr c27
    subst c27
    have H1 : ((chain_Next.f l0_0 l0_1 ([] : List (S51)) ([] : List Int)).bind fun bt527 => (if bt527.2.2 = 0 then ((cohousingref23_Same.f kj4 bt527.1 bt527.2.1 l0_0 l0_1).bind fun t535 => (cohousinglaw26_ChainNext.j1 kj4 l1 l2 t524 (!t535) l0_0 l0_1)) else (cohousinglaw26_ChainNext.j1 kj4 l1 l2 t524 true l0_0 l0_1))) = some r := by rw [if_neg (show ¬ (false = true) by decide)] at H; exact H
    clear H
    have H := H1
    clear H1
    replace H := Option.bind_eq_some_iff.mp H
    obtain ⟨⟨t527, t530, t533⟩, A280, H⟩ := H
    replace H : (if t533 = 0 then ((cohousingref23_Same.f kj4 t527 t530 l0_0 l0_1).bind fun t535 => (cohousinglaw26_ChainNext.j1 kj4 l1 l2 t524 (!t535) l0_0 l0_1)) else (cohousinglaw26_ChainNext.j1 kj4 l1 l2 t524 true l0_0 l0_1)) = some r := H
    have A28 := Aside0.mk A280
    clear A280
    have HC29 := Aside0.mk H
    clear H
    have hcz30_0 : wc.cell? ⟨gb523, 0, none⟩ = some (.slice A0_0 l0_0.length c0_0) := (blk_cell BK523.out 0).trans rfl
    have hcz30_1 : wc.cell? ⟨gb523, 1, none⟩ = some (.slice A0_1 l0_1.length c0_1) := (blk_cell BK523.out 1).trans rfl
    have hfz30_0 := blk_frozen BK523.out 0
    have hfz30_1 := blk_frozen BK523.out 1
    go_upto_region 5 with (first | (go_at_call 15; (refine (chain_Next.calls _ _ l0_0 _ _ l0_1 _ _ ([] : List (S51)) _ _ ([] : List Int) t527 t530 t533 _ ?side1 ?side2 ?side3 ?side4 ?side5 ?side6 ?side7 ?side8 A28.out).mono ?_); (case side1 => exact cc_ ((Kd.C_below HR0_0.out HB.out))); (case side2 => exact HC0_0.out); (case side3 => exact cc_ ((Kd.C_below HR0_1.out HB.out))); (case side4 => exact HC0_1.out); (case side5 => exact Kd.C_nil _ _); (case side6 => exact Nat.le_refl _); (case side7 => exact Kd.C_nil _ _); (case side8 => exact Nat.le_refl _); rintro e w31 ⟨v528, v531, rfl, ho0, ho1, hb⟩; have n0_ := Aside0.mk (Kd.R_lower ho0 (below_size (bs_ HB GE523.out))); have n1_ := Aside0.mk (Kd.S_lower ho1 (below_size (bs_ HB GE523.out))); have n2_ := Aside0.mk (blk_below (g := gb523) (o := .cells #[.slice A0_0 l0_0.length c0_0, .slice A0_1 l0_1.length c0_1] 25 (0, 0)) (kk_ BK523) hb); have n3_ := Aside0.mk (below_step (bs_ HB GE523.out) hb); clear BK523; clear HB; have HO529 := n0_; have HO532 := n1_; have BK523 := n2_; have HB := n3_; clear n0_ n1_ n2_ n3_; (try clear hb); (try clear hb2); (try clear hk); (try clear hi); (try clear ho0); (try clear ho1)) | ((with_reducible refine gate_dst (N := 8) rfl ?_); (try (refine gate_guard (by rfl) ?_; dsimp only)); refine box_event ?hg (N := 8) ?hd (cs := #[.slice none 0 0, .slice none 0 0]) (t := 25) ?hr ?_; (case hd => rfl); (case hg => rfl); (case hr => first | (go_simp; done) | (go_simp; rfl)); intro gb534 hg w32 hbox hb; have n0_ := Aside0.mk (Kd.R_below (rr_ HO529) hb); have n1_ := Aside0.mk (Kd.S_below (by (with_reducible repeat (first | apply Kd.S_alloc | apply Kd.S_drewN | apply Kd.S_drew)); exact HO532.out) hb); have n2_ := Aside0.mk (blk_below (g := gb523) (o := .cells #[.slice A0_0 l0_0.length c0_0, .slice A0_1 l0_1.length c0_1] 25 (0, 0)) (kk_ BK523) hb); have n3_ := Aside0.mk (below_step (bs_ HB GE523.out) hb); have n4_ := Aside0.mk (hbox); have n5_ := Aside0.mk ((by rw [hg]; exact (below_size (bs_ HB GE523.out)) : w.heap.size ≤ gb534)); have n6_ := Aside0.mk ((by rw [hg]; exact (below_size (bs_ HB GE523.out)) : w.heap.size ≤ gb534)); have n7_ := Aside0.mk ((by rw [hg]; exact Nat.ne_of_lt (blk_lt (g := gb523) (o := .cells #[.slice A0_0 l0_0.length c0_0, .slice A0_1 l0_1.length c0_1] 25 (0, 0)) (kk_ BK523)) : gb523 ≠ gb534)); have n8_ := Aside0.mk ((by rw [hg]; exact Nat.ne_of_gt (blk_lt (g := gb523) (o := .cells #[.slice A0_0 l0_0.length c0_0, .slice A0_1 l0_1.length c0_1] 25 (0, 0)) (kk_ BK523)) : gb534 ≠ gb523)); clear HO529; clear HO532; clear BK523; clear HB; have HO529 := n0_; have HO532 := n1_; have BK523 := n2_; have HB := n3_; have BK534 := n4_; have GW534 := n5_; have GE534 := n6_; have NB523_534 := n7_; have NB534_523 := n8_; clear n0_ n1_ n2_ n3_ n4_ n5_ n6_ n7_ n8_; clear hb hbox hg; obtain ⟨Ao33, co33, eo33⟩ := Kd.R_slice HO529.out; subst eo33; have hnb34 := NB534_523.out; have hnc34 := NB523_534.out; have hcz35_0 : w32.cell? ⟨gb534, 0, none⟩ = some (.slice none 0 0) := (blk_cell BK534.out 0).trans rfl; have hcz35_1 : w32.cell? ⟨gb534, 1, none⟩ = some (.slice none 0 0) := (blk_cell BK534.out 1).trans rfl; have hfz35_0 := blk_frozen BK534.out 0; have hfz35_1 := blk_frozen BK534.out 1; obtain ⟨Ao36, co36, eo36⟩ := Kd.S_slice HO532.out; subst eo36))
    (try simp only [Act.put, sI_, s0_, sS_])
    go_cut [50] (fun v50 wc => ∃ (kq : Nat) (x50_28 : Bool), v50 = .bool x50_28 ∧ Aside0 (cohousinglaw26_ChainNext.j1 kq l1 l2 t524 x50_28 l0_0 l0_1 = some r) ∧ Aside0 (kq ≤ kj4) ∧ Aside0 (Kd.R k84 84 wc w.heap.size (fun _ => True) (.slice Ao33 t527.length co33) t527) ∧ Aside0 (Kd.S k46 46 wc w.heap.size (fun _ => True) (.slice Ao36 t530.length co36) t530) ∧ Aside0 (wc.heap[gb523]? = some (.cells #[(.slice A0_0 l0_0.length c0_0), (.slice A0_1 l0_1.length c0_1)] 25 (0, 0))) ∧ Aside0 (wc.heap[gb534]? = some (.cells #[(.slice Ao33 t527.length co33), (.slice Ao36 t530.length co36)] 25 (0, 0))) ∧ Aside0 (Below w.heap.size w wc))
    case first =>
     have H := HC29.out
     clear HC29
     by_cases c37 : t533 = 0
     ·rw [if_pos c37] at H
      have c37b0 : (t533 == 0) = true := beq_iff_eq.mpr c37
      have c37b1 : (t533 != 0) = false := bne_eq_false_iff_eq.mpr c37
      clear c37
      (first | rw [c37b0] | (simp only [i64_w, i32_w]; rw [c37b0]) | skip)
      replace H := Option.bind_eq_some_iff.mp H
      obtain ⟨t535, A380, H⟩ := H
      replace H : (cohousinglaw26_ChainNext.j1 kj4 l1 l2 t524 (!t535) l0_0 l0_1) = some r := H
      have A38 := Aside0.mk A380
      clear A380
      have H' := Aside0.mk H
      clear H
      have hnb39 := NB534_523.out
      have hnc39 := NB523_534.out
      have hcz40_0 : w32.cell? ⟨gb534, 0, none⟩ = some (.slice none 0 0) := (blk_cell BK534.out 0).trans rfl
      have hcz40_1 : w32.cell? ⟨gb534, 1, none⟩ = some (.slice none 0 0) := (blk_cell BK534.out 1).trans rfl
      have hfz40_0 := blk_frozen BK534.out 0
      have hfz40_1 := blk_frozen BK534.out 1
      have hcz41_0 : w32.cell? ⟨gb523, 0, none⟩ = some (.slice A0_0 l0_0.length c0_0) := (blk_cell BK523.out 0).trans rfl
      have hcz41_1 : w32.cell? ⟨gb523, 1, none⟩ = some (.slice A0_1 l0_1.length c0_1) := (blk_cell BK523.out 1).trans rfl
      have hfz41_0 := blk_frozen BK523.out 0
      have hfz41_1 := blk_frozen BK523.out 1
      go_wp2_with (first | (go_at_call 19; (with_reducible refine (cohousingref23_Same.calls kj4 _ _ t527 _ _ t530 _ _ l0_0 _ _ l0_1 t535 _ ?side1 ?side2 ?side3 ?side4 ?side5 ?side6 ?side7 ?side8 A38.out).mono ?_); (case side1 => refine (Kd.R_reads' (e := 84) (base := w.heap.size) (ok := fun k_ => True) (n := t527.length) (c := co33) ?_).2.2; exact (by (with_reducible repeat (first | apply Kd.R_alloc | apply Kd.R_drewN | apply Kd.R_drew)); exact (Kd.R_mono (Kd.R_far (p := ⟨gb534, 1, none⟩) (Kd.R_far (p := ⟨gb534, 0, none⟩) (Kd.R_types HO529.out BK534.out (by decide)) (fun _ hk => hk.2) (.slice Ao33 t527.length co33)) (fun _ hk => hk.2) (.slice Ao36 t530.length co36)) (fun _ h_ => h_.1)))); (case side2 => exact (Kd.R_reads' HO529.out).2.1); (case side3 => refine (Kd.S_reads' (e := 46) (base := w.heap.size) (ok := fun k_ => True) (n := t530.length) (c := co36) ?_).2.2; exact (by (with_reducible repeat (first | apply Kd.S_alloc | apply Kd.S_drewN | apply Kd.S_drew)); exact (Kd.S_mono (Kd.S_far (p := ⟨gb534, 1, none⟩) (Kd.S_far (p := ⟨gb534, 0, none⟩) (Kd.S_types HO532.out BK534.out (by decide)) (fun _ hk => hk.2) (.slice Ao33 t527.length co33)) (fun _ hk => hk.2) (.slice Ao36 t530.length co36)) (fun _ h_ => h_.1)))); (case side4 => exact (Kd.S_reads' HO532.out).2.1); (case side5 => exact Kd.C_below HR0_0.out (by repeat (first | (with_reducible first | exact HB.out | apply below_alloc | apply pw_below_drewN | apply below_drew1 | refine below_set ?_ GE523.out | refine below_set ?_ GE534.out) | exact HB.out))); (case side6 => exact HC0_0.out); (case side7 => exact Kd.C_below HR0_1.out (by repeat (first | (with_reducible first | exact HB.out | apply below_alloc | apply pw_below_drewN | apply below_drew1 | refine below_set ?_ GE523.out | refine below_set ?_ GE534.out) | exact HB.out))); (case side8 => exact HC0_1.out); rintro e w42 ⟨rfl, hb⟩; have n0_ := Aside0.mk (Kd.R_below (by (with_reducible repeat (first | apply Kd.R_alloc | apply Kd.R_drewN | apply Kd.R_drew)); exact (Kd.R_mono (Kd.R_far (p := ⟨gb534, 1, none⟩) (Kd.R_far (p := ⟨gb534, 0, none⟩) (Kd.R_types HO529.out BK534.out (by decide)) (fun _ hk => hk.2) (.slice Ao33 t527.length co33)) (fun _ hk => hk.2) (.slice Ao36 t530.length co36)) (fun _ h_ => h_.1))) hb); have n1_ := Aside0.mk (Kd.S_below (by (with_reducible repeat (first | apply Kd.S_alloc | apply Kd.S_drewN | apply Kd.S_drew)); exact (Kd.S_mono (Kd.S_far (p := ⟨gb534, 1, none⟩) (Kd.S_far (p := ⟨gb534, 0, none⟩) (Kd.S_types HO532.out BK534.out (by decide)) (fun _ hk => hk.2) (.slice Ao33 t527.length co33)) (fun _ hk => hk.2) (.slice Ao36 t530.length co36)) (fun _ h_ => h_.1))) hb); have n2_ := Aside0.mk (blk_below (g := gb523) (o := .cells #[.slice A0_0 l0_0.length c0_0, .slice A0_1 l0_1.length c0_1] 25 (0, 0)) (by (with_reducible repeat (first | refine blk_drewN ?_ _ | refine blk_drew ?_ | refine blk_alloc ?_ _)); refine blk_far ?_ NB523_534.out _; (with_reducible repeat (first | refine blk_drewN ?_ _ | refine blk_drew ?_ | refine blk_alloc ?_ _)); refine blk_far ?_ NB523_534.out _; (with_reducible repeat (first | refine blk_drewN ?_ _ | refine blk_drew ?_ | refine blk_alloc ?_ _)); exact BK523.out) hb); have n3_ := Aside0.mk (blk_below (g := gb534) (o := .cells #[.slice Ao33 t527.length co33, .slice Ao36 t530.length co36] 25 (0, 0)) (by (with_reducible repeat (first | refine blk_drewN ?_ _ | refine blk_drew ?_ | refine blk_alloc ?_ _)); refine blk_put (cs := #[.slice Ao33 t527.length co33, .slice none 0 0]) ?_ 1 _ rfl; (with_reducible repeat (first | refine blk_drewN ?_ _ | refine blk_drew ?_ | refine blk_alloc ?_ _)); refine blk_put (cs := #[.slice none 0 0, .slice none 0 0]) ?_ 0 _ rfl; (with_reducible repeat (first | refine blk_drewN ?_ _ | refine blk_drew ?_ | refine blk_alloc ?_ _)); exact BK534.out) hb); have n4_ := Aside0.mk (below_step (by repeat (first | (with_reducible first | exact HB.out | apply below_alloc | apply pw_below_drewN | apply below_drew1 | refine below_set ?_ GE523.out | refine below_set ?_ GE534.out) | exact HB.out)) hb); clear HO529; clear HO532; clear BK523; clear BK534; clear HB; have HO529 := n0_; have HO532 := n1_; have BK523 := n2_; have BK534 := n3_; have HB := n4_; clear n0_ n1_ n2_ n3_ n4_; (try clear hb); (try clear hb2); (try clear hk); (try clear hi)))
      go_meet
      case rel => exact ⟨_, (!t535), sd_, H', ⟨by have := HJ4.out; first | omega | exact Nat.le_refl _⟩, ⟨by (with_reducible repeat (first | apply Kd.R_alloc | apply Kd.R_drewN | apply Kd.R_drew)); exact HO529.out⟩, ⟨by (with_reducible repeat (first | apply Kd.S_alloc | apply Kd.S_drewN | apply Kd.S_drew)); exact HO532.out⟩, ⟨by (with_reducible repeat (first | refine blk_drewN ?_ _ | refine blk_drew ?_ | refine blk_alloc ?_ _)); exact BK523.out⟩, ⟨by (with_reducible repeat (first | refine blk_drewN ?_ _ | refine blk_drew ?_ | refine blk_alloc ?_ _)); exact BK534.out⟩, ⟨by repeat (first | (with_reducible first | exact HB.out | apply below_alloc | apply pw_below_drewN | apply below_drew1 | refine below_set ?_ GE523.out | refine below_set ?_ GE534.out) | exact HB.out)⟩⟩
     ·rw [if_neg c37] at H
      have c37b0 : (t533 == 0) = false := beq_eq_false_iff_ne.mpr c37
      have c37b1 : (t533 != 0) = true := bne_iff_ne.mpr c37
      (first | rw [c37b0] | (simp only [i64_w, i32_w]; rw [c37b0]) | skip)
      have H' := Aside0.mk H
      clear H
      go_wp2
      repeat (go_quiet (fail); try go_wp2)
      go_meet
      case rel => exact ⟨_, (true), sd_, H', ⟨by have := HJ4.out; first | omega | exact Nat.le_refl _⟩, ⟨by (with_reducible repeat (first | apply Kd.R_alloc | apply Kd.R_drewN | apply Kd.R_drew)); exact Kd.R_mono (Kd.R_far (p := ⟨gb534, 1, none⟩) (Kd.R_far (p := ⟨gb534, 0, none⟩) (Kd.R_types HO529.out BK534.out (by decide)) (fun _ hk => hk.2) (.slice Ao33 t527.length co33)) (fun _ hk => hk.2) (.slice Ao36 t530.length co36)) (fun _ hk => trivial)⟩, ⟨by (with_reducible repeat (first | apply Kd.S_alloc | apply Kd.S_drewN | apply Kd.S_drew)); exact Kd.S_mono (Kd.S_far (p := ⟨gb534, 1, none⟩) (Kd.S_far (p := ⟨gb534, 0, none⟩) (Kd.S_types HO532.out BK534.out (by decide)) (fun _ hk => hk.2) (.slice Ao33 t527.length co33)) (fun _ hk => hk.2) (.slice Ao36 t530.length co36)) (fun _ hk => trivial)⟩, ⟨by (with_reducible repeat (first | refine blk_drewN ?_ _ | refine blk_drew ?_ | refine blk_alloc ?_ _)); refine blk_far ?_ NB523_534.out _; (with_reducible repeat (first | refine blk_drewN ?_ _ | refine blk_drew ?_ | refine blk_alloc ?_ _)); refine blk_far ?_ NB523_534.out _; (with_reducible repeat (first | refine blk_drewN ?_ _ | refine blk_drew ?_ | refine blk_alloc ?_ _)); exact BK523.out⟩, ⟨by (with_reducible repeat (first | refine blk_drewN ?_ _ | refine blk_drew ?_ | refine blk_alloc ?_ _)); refine blk_put (cs := #[.slice Ao33 t527.length co33, .slice none 0 0]) ?_ 1 _ rfl; (with_reducible repeat (first | refine blk_drewN ?_ _ | refine blk_drew ?_ | refine blk_alloc ?_ _)); refine blk_put (cs := #[.slice none 0 0, .slice none 0 0]) ?_ 0 _ rfl; (with_reducible repeat (first | refine blk_drewN ?_ _ | refine blk_drew ?_ | refine blk_alloc ?_ _)); exact BK534.out⟩, ⟨by repeat (first | (with_reducible first | exact HB.out | apply below_alloc | apply pw_below_drewN | apply below_drew1 | refine below_set ?_ GE523.out | refine below_set ?_ GE534.out) | exact HB.out)⟩⟩
    case rest =>
     clear HC29
     try clear c1
     try clear c2
     try clear p2
     try clear c3
     try clear c8
     try clear c9
     try clear c11
     try clear c12
     try clear c12b0
     try clear c12b1
     try clear c27
     try clear c34
     try clear c37
     try clear c37b0
     try clear c37b1
     try clear c39
     try clear hcz13_0
     try clear hcz13_1
     try clear hcz15_0
     try clear hcz15_1
     try clear hcz17_0
     try clear hcz17_1
     try clear hcz19_0
     try clear hcz19_1
     try clear hcz21_0
     try clear hcz21_1
     try clear hcz23_0
     try clear hcz23_1
     try clear hcz25_0
     try clear hcz25_1
     try clear hcz30_0
     try clear hcz30_1
     try clear hcz35_0
     try clear hcz35_1
     try clear hcz40_0
     try clear hcz40_1
     try clear hcz41_0
     try clear hcz41_1
     try clear hfz13_0
     try clear hfz13_1
     try clear hfz15_0
     try clear hfz15_1
     try clear hfz17_0
     try clear hfz17_1
     try clear hfz19_0
     try clear hfz19_1
     try clear hfz21_0
     try clear hfz21_1
     try clear hfz23_0
     try clear hfz23_1
     try clear hfz25_0
     try clear hfz25_1
     try clear hfz30_0
     try clear hfz30_1
     try clear hfz35_0
     try clear hfz35_1
     try clear hfz40_0
     try clear hfz40_1
     try clear hfz41_0
     try clear hfz41_1
     try clear p2
     obtain ⟨kq, x50_28, rfl, HA, HJ28, HO_535000, HO_535001, BK523, BK534, HB⟩ := hcut
     cases kq with
     | zero => exact absurd HA.out (by simp [cohousinglaw26_ChainNext.j1])
     | succ kj28 =>
      have H := HA.out
      clear HA
      simp only [cohousinglaw26_ChainNext.j1] at H
      by_cases c43 : x50_28 = true
      ·subst c43
       have H1 : (some false) = some r := by rw [if_pos rfl] at H; exact H
       clear H
       have H := H1
       clear H1
       obtain rfl := Option.some.inj H
       go_wp2
       repeat (go_quiet (fail); try go_wp2)
       go_ret
       exact ⟨ew_, by repeat (first | (with_reducible first | exact HB.out | apply below_alloc | apply pw_below_drewN | apply below_drew1 | refine below_set ?_ GE523.out | refine below_set ?_ GE534.out) | exact HB.out)⟩
      ·replace c43 := Bool.eq_false_iff.mpr c43
       subst c43
       have H1 : ((chain_Next.f l0_0 l0_1 l1 l2).bind fun bt536 => (if bt536.2.2 = 0 then ((market_Valid.f bt536.1 bt536.2.1).bind fun t544 => (if t544 = true then (cohousinglaw26_ChainNext.j2 kj28 l1 l2 t524 ((bt536.2.1.length : Int) != (wrap64 ((l0_1.length : Int) - (l2.length : Int)))) l0_0 l0_1 bt536.1 bt536.2.1) else (cohousinglaw26_ChainNext.j2 kj28 l1 l2 t524 true l0_0 l0_1 bt536.1 bt536.2.1))) else (if t524 = true then (some ((wrap64 ((bt536.2.1.length : Int) + (bt536.1.length : Int))) == 0)) else (some false)))) = some r := by rw [if_neg (show ¬ (false = true) by decide)] at H; exact H
       clear H
       have H := H1
       clear H1
       replace H := Option.bind_eq_some_iff.mp H
       obtain ⟨⟨t536, t539, t542⟩, A440, H⟩ := H
       replace H : (if t542 = 0 then ((market_Valid.f t536 t539).bind fun t544 => (if t544 = true then (cohousinglaw26_ChainNext.j2 kj28 l1 l2 t524 ((t539.length : Int) != (wrap64 ((l0_1.length : Int) - (l2.length : Int)))) l0_0 l0_1 t536 t539) else (cohousinglaw26_ChainNext.j2 kj28 l1 l2 t524 true l0_0 l0_1 t536 t539))) else (if t524 = true then (some ((wrap64 ((t539.length : Int) + (t536.length : Int))) == 0)) else (some false))) = some r := H
       have A44 := Aside0.mk A440
       clear A440
       by_cases c45 : t542 = 0
       ·rw [if_pos c45] at H
        have c45b0 : (t542 == 0) = true := beq_iff_eq.mpr c45
        have c45b1 : (t542 != 0) = false := bne_eq_false_iff_eq.mpr c45
        clear c45
        have HC46 := Aside0.mk H
        clear H
        have hnb47 := NB523_534.out
        have hnc47 := NB534_523.out
        have hcz48_0 : wc.cell? ⟨gb523, 0, none⟩ = some (.slice A0_0 l0_0.length c0_0) := (blk_cell BK523.out 0).trans rfl
        have hcz48_1 : wc.cell? ⟨gb523, 1, none⟩ = some (.slice A0_1 l0_1.length c0_1) := (blk_cell BK523.out 1).trans rfl
        have hfz48_0 := blk_frozen BK523.out 0
        have hfz48_1 := blk_frozen BK523.out 1
        go_upto_region 10 with (first | (go_at_call 15; (with_reducible refine (chain_Next.calls _ _ l0_0 _ _ l0_1 _ _ l1 _ _ l2 t536 t539 t542 _ ?side1 ?side2 ?side3 ?side4 ?side5 ?side6 ?side7 ?side8 A44.out).mono ?_); (case side1 => exact cc_ ((Kd.C_below HR0_0.out HB.out))); (case side2 => exact HC0_0.out); (case side3 => exact cc_ ((Kd.C_below HR0_1.out HB.out))); (case side4 => exact HC0_1.out); (case side5 => exact cc_ ((Kd.C_below HR1.out HB.out))); (case side6 => exact HC1.out); (case side7 => exact cc_ ((Kd.C_below HR2.out HB.out))); (case side8 => exact HC2.out); rintro e w49 ⟨v537, v540, rfl, ho0, ho1, hb⟩; have n0_ := Aside0.mk (Kd.R_elder' (rr_ HO_535000) (Kd.R_base ho0) hb); have n1_ := Aside0.mk (Kd.S_elder' (by (with_reducible repeat (first | apply Kd.S_alloc | apply Kd.S_drewN | apply Kd.S_drew)); exact HO_535001.out) (Kd.S_base ho1) hb); have n2_ := Aside0.mk (Kd.R_lower (Kd.R_new' ho0 (Kd.R_lt (rr_ HO_535000))) (below_size (by repeat (first | (with_reducible first | exact HB.out | apply below_alloc | apply pw_below_drewN | apply below_drew1 | refine below_set ?_ GE523.out | refine below_set ?_ GE534.out) | exact HB.out)))); have n3_ := Aside0.mk (Kd.S_lower (Kd.S_new' ho1 (Kd.S_lt (by (with_reducible repeat (first | apply Kd.S_alloc | apply Kd.S_drewN | apply Kd.S_drew)); exact HO_535001.out))) (below_size (by repeat (first | (with_reducible first | exact HB.out | apply below_alloc | apply pw_below_drewN | apply below_drew1 | refine below_set ?_ GE523.out | refine below_set ?_ GE534.out) | exact HB.out)))); have n4_ := Aside0.mk (blk_below (g := gb523) (o := .cells #[.slice A0_0 l0_0.length c0_0, .slice A0_1 l0_1.length c0_1] 25 (0, 0)) (kk_ BK523) hb); have n5_ := Aside0.mk (blk_below (g := gb534) (o := .cells #[.slice Ao33 t527.length co33, .slice Ao36 t530.length co36] 25 (0, 0)) (kk_ BK534) hb); have n6_ := Aside0.mk (below_step (by repeat (first | (with_reducible first | exact HB.out | apply below_alloc | apply pw_below_drewN | apply below_drew1 | refine below_set ?_ GE523.out | refine below_set ?_ GE534.out) | exact HB.out)) hb); clear HO_535000; clear HO_535001; clear BK523; clear BK534; clear HB; have HO_535000 := n0_; have HO_535001 := n1_; have HO538 := n2_; have HO541 := n3_; have BK523 := n4_; have BK534 := n5_; have HB := n6_; clear n0_ n1_ n2_ n3_ n4_ n5_ n6_; (try clear hb); (try clear hb2); (try clear hk); (try clear hi); (try clear ho0); (try clear ho1)) | ((with_reducible refine gate_dst (N := 10) rfl ?_); (try (refine gate_guard (by rfl) ?_; dsimp only)); refine box_event ?hg (N := 10) ?hd (cs := #[.slice none 0 0, .slice none 0 0]) (t := 25) ?hr ?_; (case hd => rfl); (case hg => rfl); (case hr => first | (go_simp; done) | (go_simp; rfl)); intro gb543 hg w50 hbox hb; have n0_ := Aside0.mk (Kd.R_below (rr_ HO_535000) hb); have n1_ := Aside0.mk (Kd.S_below (by (with_reducible repeat (first | apply Kd.S_alloc | apply Kd.S_drewN | apply Kd.S_drew)); exact HO_535001.out) hb); have n2_ := Aside0.mk (Kd.R_below (rr_ HO538) hb); have n3_ := Aside0.mk (Kd.S_below (by (with_reducible repeat (first | apply Kd.S_alloc | apply Kd.S_drewN | apply Kd.S_drew)); exact HO541.out) hb); have n4_ := Aside0.mk (blk_below (g := gb523) (o := .cells #[.slice A0_0 l0_0.length c0_0, .slice A0_1 l0_1.length c0_1] 25 (0, 0)) (kk_ BK523) hb); have n5_ := Aside0.mk (blk_below (g := gb534) (o := .cells #[.slice Ao33 t527.length co33, .slice Ao36 t530.length co36] 25 (0, 0)) (kk_ BK534) hb); have n6_ := Aside0.mk (below_step (by repeat (first | (with_reducible first | exact HB.out | apply below_alloc | apply pw_below_drewN | apply below_drew1 | refine below_set ?_ GE523.out | refine below_set ?_ GE534.out) | exact HB.out)) hb); have n7_ := Aside0.mk (hbox); have n8_ := Aside0.mk ((by rw [hg]; exact (below_size (by repeat (first | (with_reducible first | exact HB.out | apply below_alloc | apply pw_below_drewN | apply below_drew1 | refine below_set ?_ GE523.out | refine below_set ?_ GE534.out) | exact HB.out))) : w.heap.size ≤ gb543)); have n9_ := Aside0.mk ((by rw [hg]; exact (below_size (by repeat (first | (with_reducible first | exact HB.out | apply below_alloc | apply pw_below_drewN | apply below_drew1 | refine below_set ?_ GE523.out | refine below_set ?_ GE534.out) | exact HB.out))) : w.heap.size ≤ gb543)); have n10_ := Aside0.mk ((by rw [hg]; exact Nat.ne_of_lt (blk_lt (g := gb523) (o := .cells #[.slice A0_0 l0_0.length c0_0, .slice A0_1 l0_1.length c0_1] 25 (0, 0)) (kk_ BK523)) : gb523 ≠ gb543)); have n11_ := Aside0.mk ((by rw [hg]; exact Nat.ne_of_gt (blk_lt (g := gb523) (o := .cells #[.slice A0_0 l0_0.length c0_0, .slice A0_1 l0_1.length c0_1] 25 (0, 0)) (kk_ BK523)) : gb543 ≠ gb523)); have n12_ := Aside0.mk ((by rw [hg]; exact Nat.ne_of_lt (blk_lt (g := gb534) (o := .cells #[.slice Ao33 t527.length co33, .slice Ao36 t530.length co36] 25 (0, 0)) (kk_ BK534)) : gb534 ≠ gb543)); have n13_ := Aside0.mk ((by rw [hg]; exact Nat.ne_of_gt (blk_lt (g := gb534) (o := .cells #[.slice Ao33 t527.length co33, .slice Ao36 t530.length co36] 25 (0, 0)) (kk_ BK534)) : gb543 ≠ gb534)); clear HO_535000; clear HO_535001; clear HO538; clear HO541; clear BK523; clear BK534; clear HB; have HO_535000 := n0_; have HO_535001 := n1_; have HO538 := n2_; have HO541 := n3_; have BK523 := n4_; have BK534 := n5_; have HB := n6_; have BK543 := n7_; have GW543 := n8_; have GE543 := n9_; have NB523_543 := n10_; have NB543_523 := n11_; have NB534_543 := n12_; have NB543_534 := n13_; clear n0_ n1_ n2_ n3_ n4_ n5_ n6_ n7_ n8_ n9_ n10_ n11_ n12_ n13_; clear hb hbox hg; obtain ⟨Ao51, co51, eo51⟩ := Kd.R_slice HO538.out; subst eo51; have hnb52 := NB543_523.out; have hnc52 := NB523_543.out; have hnb53 := NB543_534.out; have hnc53 := NB534_543.out; have hcz54_0 : w50.cell? ⟨gb543, 0, none⟩ = some (.slice none 0 0) := (blk_cell BK543.out 0).trans rfl; have hcz54_1 : w50.cell? ⟨gb543, 1, none⟩ = some (.slice none 0 0) := (blk_cell BK543.out 1).trans rfl; have hfz54_0 := blk_frozen BK543.out 0; have hfz54_1 := blk_frozen BK543.out 1; obtain ⟨Ao55, co55, eo55⟩ := Kd.S_slice HO541.out; subst eo55))
        (try simp only [Act.put, sI_, s0_, sS_])
        go_cut [85] (fun v85 wc => ∃ (kq : Nat) (x85_45 : Bool), v85 = .bool x85_45 ∧ Aside0 (cohousinglaw26_ChainNext.j2 kq l1 l2 t524 x85_45 l0_0 l0_1 t536 t539 = some r) ∧ Aside0 (kq ≤ kj28) ∧ Aside0 (Kd.R k84 84 wc w.heap.size (fun k_ => some k_ ≠ ((.slice Ao51 t536.length co51) : Value).ownBlock) (.slice Ao33 t527.length co33) t527) ∧ Aside0 (Kd.S k46 46 wc w.heap.size (fun k_ => some k_ ≠ ((.slice Ao55 t539.length co55) : Value).ownBlock) (.slice Ao36 t530.length co36) t530) ∧ Aside0 (Kd.R k84 84 wc w.heap.size (fun k_ => some k_ ≠ ((.slice Ao33 t527.length co33) : Value).ownBlock) (.slice Ao51 t536.length co51) t536) ∧ Aside0 (Kd.S k46 46 wc w.heap.size (fun k_ => some k_ ≠ ((.slice Ao36 t530.length co36) : Value).ownBlock) (.slice Ao55 t539.length co55) t539) ∧ Aside0 (wc.heap[gb523]? = some (.cells #[(.slice A0_0 l0_0.length c0_0), (.slice A0_1 l0_1.length c0_1)] 25 (0, 0))) ∧ Aside0 (wc.heap[gb534]? = some (.cells #[(.slice Ao33 t527.length co33), (.slice Ao36 t530.length co36)] 25 (0, 0))) ∧ Aside0 (wc.heap[gb543]? = some (.cells #[(.slice Ao51 t536.length co51), (.slice Ao55 t539.length co55)] 25 (0, 0))) ∧ Aside0 (Below w.heap.size w wc))
        case first =>
         have H := HC46.out
         clear HC46
         replace H := Option.bind_eq_some_iff.mp H
         obtain ⟨t544, A560, H⟩ := H
         replace H : (if t544 = true then (cohousinglaw26_ChainNext.j2 kj28 l1 l2 t524 ((t539.length : Int) != (wrap64 ((l0_1.length : Int) - (l2.length : Int)))) l0_0 l0_1 t536 t539) else (cohousinglaw26_ChainNext.j2 kj28 l1 l2 t524 true l0_0 l0_1 t536 t539)) = some r := H
         have A56 := Aside0.mk A560
         clear A560
         by_cases c57 : t544 = true
         ·subst c57
          have H1 : (cohousinglaw26_ChainNext.j2 kj28 l1 l2 t524 ((t539.length : Int) != (wrap64 ((l0_1.length : Int) - (l2.length : Int)))) l0_0 l0_1 t536 t539) = some r := by rw [if_pos rfl] at H; exact H
          clear H
          have H := H1
          clear H1
          have H' := Aside0.mk H
          clear H
          have hnb58 := NB543_523.out
          have hnc58 := NB523_543.out
          have hnb59 := NB543_534.out
          have hnc59 := NB534_543.out
          have hcz60_0 : w50.cell? ⟨gb543, 0, none⟩ = some (.slice none 0 0) := (blk_cell BK543.out 0).trans rfl
          have hcz60_1 : w50.cell? ⟨gb543, 1, none⟩ = some (.slice none 0 0) := (blk_cell BK543.out 1).trans rfl
          have hfz60_0 := blk_frozen BK543.out 0
          have hfz60_1 := blk_frozen BK543.out 1
          go_wp2_with (first | (go_at_call 22; (with_reducible refine (market_Valid.calls _ _ t536 _ _ t539 true _ ?side1 ?side2 ?side3 ?side4 A56.out).mono ?_); (case side1 => refine (Kd.R_reads' (e := 84) (base := w.heap.size) (ok := fun k_ => (True ∧ some k_ ≠ (.slice Ao33 t527.length co33 : Value).ownBlock)) (n := t536.length) (c := co51) ?_).2.2; exact (by (with_reducible repeat (first | apply Kd.R_alloc | apply Kd.R_drewN | apply Kd.R_drew)); exact (Kd.R_mono (Kd.R_far (p := ⟨gb543, 1, none⟩) (Kd.R_far (p := ⟨gb543, 0, none⟩) (Kd.R_types HO538.out BK543.out (by decide)) (fun _ hk => hk.2) (.slice Ao51 t536.length co51)) (fun _ hk => hk.2) (.slice Ao55 t539.length co55)) (fun _ h_ => h_.1)))); (case side2 => exact (Kd.R_reads' HO538.out).2.1); (case side3 => refine (Kd.S_reads' (e := 46) (base := w.heap.size) (ok := fun k_ => (True ∧ some k_ ≠ (.slice Ao36 t530.length co36 : Value).ownBlock)) (n := t539.length) (c := co55) ?_).2.2; exact (by (with_reducible repeat (first | apply Kd.S_alloc | apply Kd.S_drewN | apply Kd.S_drew)); exact (Kd.S_mono (Kd.S_far (p := ⟨gb543, 1, none⟩) (Kd.S_far (p := ⟨gb543, 0, none⟩) (Kd.S_types HO541.out BK543.out (by decide)) (fun _ hk => hk.2) (.slice Ao51 t536.length co51)) (fun _ hk => hk.2) (.slice Ao55 t539.length co55)) (fun _ h_ => h_.1)))); (case side4 => exact (Kd.S_reads' HO541.out).2.1); rintro e w61 ⟨rfl, hb⟩; have n0_ := Aside0.mk (Kd.R_below (by (with_reducible repeat (first | apply Kd.R_alloc | apply Kd.R_drewN | apply Kd.R_drew)); exact (Kd.R_mono (Kd.R_far (p := ⟨gb543, 1, none⟩) (Kd.R_far (p := ⟨gb543, 0, none⟩) (Kd.R_types HO_535000.out BK543.out (by decide)) (fun _ hk => hk.2) (.slice Ao51 t536.length co51)) (fun _ hk => hk.2) (.slice Ao55 t539.length co55)) (fun _ h_ => h_.1))) hb); have n1_ := Aside0.mk (Kd.S_below (by (with_reducible repeat (first | apply Kd.S_alloc | apply Kd.S_drewN | apply Kd.S_drew)); exact (Kd.S_mono (Kd.S_far (p := ⟨gb543, 1, none⟩) (Kd.S_far (p := ⟨gb543, 0, none⟩) (Kd.S_types HO_535001.out BK543.out (by decide)) (fun _ hk => hk.2) (.slice Ao51 t536.length co51)) (fun _ hk => hk.2) (.slice Ao55 t539.length co55)) (fun _ h_ => h_.1))) hb); have n2_ := Aside0.mk (Kd.R_below (by (with_reducible repeat (first | apply Kd.R_alloc | apply Kd.R_drewN | apply Kd.R_drew)); exact (Kd.R_mono (Kd.R_far (p := ⟨gb543, 1, none⟩) (Kd.R_far (p := ⟨gb543, 0, none⟩) (Kd.R_types HO538.out BK543.out (by decide)) (fun _ hk => hk.2) (.slice Ao51 t536.length co51)) (fun _ hk => hk.2) (.slice Ao55 t539.length co55)) (fun _ h_ => h_.1))) hb); have n3_ := Aside0.mk (Kd.S_below (by (with_reducible repeat (first | apply Kd.S_alloc | apply Kd.S_drewN | apply Kd.S_drew)); exact (Kd.S_mono (Kd.S_far (p := ⟨gb543, 1, none⟩) (Kd.S_far (p := ⟨gb543, 0, none⟩) (Kd.S_types HO541.out BK543.out (by decide)) (fun _ hk => hk.2) (.slice Ao51 t536.length co51)) (fun _ hk => hk.2) (.slice Ao55 t539.length co55)) (fun _ h_ => h_.1))) hb); have n4_ := Aside0.mk (blk_below (g := gb523) (o := .cells #[.slice A0_0 l0_0.length c0_0, .slice A0_1 l0_1.length c0_1] 25 (0, 0)) (by (with_reducible repeat (first | refine blk_drewN ?_ _ | refine blk_drew ?_ | refine blk_alloc ?_ _)); refine blk_far ?_ NB523_543.out _; (with_reducible repeat (first | refine blk_drewN ?_ _ | refine blk_drew ?_ | refine blk_alloc ?_ _)); refine blk_far ?_ NB523_543.out _; (with_reducible repeat (first | refine blk_drewN ?_ _ | refine blk_drew ?_ | refine blk_alloc ?_ _)); exact BK523.out) hb); have n5_ := Aside0.mk (blk_below (g := gb534) (o := .cells #[.slice Ao33 t527.length co33, .slice Ao36 t530.length co36] 25 (0, 0)) (by (with_reducible repeat (first | refine blk_drewN ?_ _ | refine blk_drew ?_ | refine blk_alloc ?_ _)); refine blk_far ?_ NB534_543.out _; (with_reducible repeat (first | refine blk_drewN ?_ _ | refine blk_drew ?_ | refine blk_alloc ?_ _)); refine blk_far ?_ NB534_543.out _; (with_reducible repeat (first | refine blk_drewN ?_ _ | refine blk_drew ?_ | refine blk_alloc ?_ _)); exact BK534.out) hb); have n6_ := Aside0.mk (blk_below (g := gb543) (o := .cells #[.slice Ao51 t536.length co51, .slice Ao55 t539.length co55] 25 (0, 0)) (by (with_reducible repeat (first | refine blk_drewN ?_ _ | refine blk_drew ?_ | refine blk_alloc ?_ _)); refine blk_put (cs := #[.slice Ao51 t536.length co51, .slice none 0 0]) ?_ 1 _ rfl; (with_reducible repeat (first | refine blk_drewN ?_ _ | refine blk_drew ?_ | refine blk_alloc ?_ _)); refine blk_put (cs := #[.slice none 0 0, .slice none 0 0]) ?_ 0 _ rfl; (with_reducible repeat (first | refine blk_drewN ?_ _ | refine blk_drew ?_ | refine blk_alloc ?_ _)); exact BK543.out) hb); have n7_ := Aside0.mk (below_step (by repeat (first | (with_reducible first | exact HB.out | apply below_alloc | apply pw_below_drewN | apply below_drew1 | refine below_set ?_ GE523.out | refine below_set ?_ GE534.out | refine below_set ?_ GE543.out) | exact HB.out)) hb); clear HO_535000; clear HO_535001; clear HO538; clear HO541; clear BK523; clear BK534; clear BK543; clear HB; have HO_535000 := n0_; have HO_535001 := n1_; have HO538 := n2_; have HO541 := n3_; have BK523 := n4_; have BK534 := n5_; have BK543 := n6_; have HB := n7_; clear n0_ n1_ n2_ n3_ n4_ n5_ n6_ n7_; (try clear hb); (try clear hb2); (try clear hk); (try clear hi); have hcz62_0 : w61.cell? ⟨gb543, 0, none⟩ = some (.slice Ao51 t536.length co51) := (blk_cell BK543.out 0).trans rfl; have hcz62_1 : w61.cell? ⟨gb543, 1, none⟩ = some (.slice Ao55 t539.length co55) := (blk_cell BK543.out 1).trans rfl; have hfz62_0 := blk_frozen BK543.out 0; have hfz62_1 := blk_frozen BK543.out 1; have hnb63 := NB523_534.out; have hnc63 := NB534_523.out; have hcz64_0 : w61.cell? ⟨gb523, 0, none⟩ = some (.slice A0_0 l0_0.length c0_0) := (blk_cell BK523.out 0).trans rfl; have hcz64_1 : w61.cell? ⟨gb523, 1, none⟩ = some (.slice A0_1 l0_1.length c0_1) := (blk_cell BK523.out 1).trans rfl; have hfz64_0 := blk_frozen BK523.out 0; have hfz64_1 := blk_frozen BK523.out 1))
          go_meet
          case rel => exact ⟨_, (((t539.length : Int) != (wrap64 ((l0_1.length : Int) - (l2.length : Int))))), sd_, H', ⟨by have := HJ4.out; have := HJ28.out; first | omega | exact Nat.le_refl _⟩, ⟨by (with_reducible repeat (first | apply Kd.R_alloc | apply Kd.R_drewN | apply Kd.R_drew)); exact Kd.R_mono HO_535000.out (fun _ hk => hk.2)⟩, ⟨by (with_reducible repeat (first | apply Kd.S_alloc | apply Kd.S_drewN | apply Kd.S_drew)); exact Kd.S_mono HO_535001.out (fun _ hk => hk.2)⟩, ⟨by (with_reducible repeat (first | apply Kd.R_alloc | apply Kd.R_drewN | apply Kd.R_drew)); exact Kd.R_mono HO538.out (fun _ hk => hk.2)⟩, ⟨by (with_reducible repeat (first | apply Kd.S_alloc | apply Kd.S_drewN | apply Kd.S_drew)); exact Kd.S_mono HO541.out (fun _ hk => hk.2)⟩, ⟨by (with_reducible repeat (first | refine blk_drewN ?_ _ | refine blk_drew ?_ | refine blk_alloc ?_ _)); exact BK523.out⟩, ⟨by (with_reducible repeat (first | refine blk_drewN ?_ _ | refine blk_drew ?_ | refine blk_alloc ?_ _)); exact BK534.out⟩, ⟨by (with_reducible repeat (first | refine blk_drewN ?_ _ | refine blk_drew ?_ | refine blk_alloc ?_ _)); exact BK543.out⟩, ⟨by repeat (first | (with_reducible first | exact HB.out | apply below_alloc | apply pw_below_drewN | apply below_drew1 | refine below_set ?_ GE523.out | refine below_set ?_ GE534.out | refine below_set ?_ GE543.out) | exact HB.out)⟩⟩
         ·replace c57 := Bool.eq_false_iff.mpr c57
          subst c57
          have H1 : (cohousinglaw26_ChainNext.j2 kj28 l1 l2 t524 true l0_0 l0_1 t536 t539) = some r := by rw [if_neg (show ¬ (false = true) by decide)] at H; exact H
          clear H
          have H := H1
          clear H1
          have H' := Aside0.mk H
          clear H
          have hnb65 := NB543_523.out
          have hnc65 := NB523_543.out
          have hnb66 := NB543_534.out
          have hnc66 := NB534_543.out
          have hcz67_0 : w50.cell? ⟨gb543, 0, none⟩ = some (.slice none 0 0) := (blk_cell BK543.out 0).trans rfl
          have hcz67_1 : w50.cell? ⟨gb543, 1, none⟩ = some (.slice none 0 0) := (blk_cell BK543.out 1).trans rfl
          have hfz67_0 := blk_frozen BK543.out 0
          have hfz67_1 := blk_frozen BK543.out 1
          go_wp2_with (first | (go_at_call 22; (with_reducible refine (market_Valid.calls _ _ t536 _ _ t539 false _ ?side1 ?side2 ?side3 ?side4 A56.out).mono ?_); (case side1 => refine (Kd.R_reads' (e := 84) (base := w.heap.size) (ok := fun k_ => (True ∧ some k_ ≠ (.slice Ao33 t527.length co33 : Value).ownBlock)) (n := t536.length) (c := co51) ?_).2.2; exact (by (with_reducible repeat (first | apply Kd.R_alloc | apply Kd.R_drewN | apply Kd.R_drew)); exact (Kd.R_mono (Kd.R_far (p := ⟨gb543, 1, none⟩) (Kd.R_far (p := ⟨gb543, 0, none⟩) (Kd.R_types HO538.out BK543.out (by decide)) (fun _ hk => hk.2) (.slice Ao51 t536.length co51)) (fun _ hk => hk.2) (.slice Ao55 t539.length co55)) (fun _ h_ => h_.1)))); (case side2 => exact (Kd.R_reads' HO538.out).2.1); (case side3 => refine (Kd.S_reads' (e := 46) (base := w.heap.size) (ok := fun k_ => (True ∧ some k_ ≠ (.slice Ao36 t530.length co36 : Value).ownBlock)) (n := t539.length) (c := co55) ?_).2.2; exact (by (with_reducible repeat (first | apply Kd.S_alloc | apply Kd.S_drewN | apply Kd.S_drew)); exact (Kd.S_mono (Kd.S_far (p := ⟨gb543, 1, none⟩) (Kd.S_far (p := ⟨gb543, 0, none⟩) (Kd.S_types HO541.out BK543.out (by decide)) (fun _ hk => hk.2) (.slice Ao51 t536.length co51)) (fun _ hk => hk.2) (.slice Ao55 t539.length co55)) (fun _ h_ => h_.1)))); (case side4 => exact (Kd.S_reads' HO541.out).2.1); rintro e w68 ⟨rfl, hb⟩; have n0_ := Aside0.mk (Kd.R_below (by (with_reducible repeat (first | apply Kd.R_alloc | apply Kd.R_drewN | apply Kd.R_drew)); exact (Kd.R_mono (Kd.R_far (p := ⟨gb543, 1, none⟩) (Kd.R_far (p := ⟨gb543, 0, none⟩) (Kd.R_types HO_535000.out BK543.out (by decide)) (fun _ hk => hk.2) (.slice Ao51 t536.length co51)) (fun _ hk => hk.2) (.slice Ao55 t539.length co55)) (fun _ h_ => h_.1))) hb); have n1_ := Aside0.mk (Kd.S_below (by (with_reducible repeat (first | apply Kd.S_alloc | apply Kd.S_drewN | apply Kd.S_drew)); exact (Kd.S_mono (Kd.S_far (p := ⟨gb543, 1, none⟩) (Kd.S_far (p := ⟨gb543, 0, none⟩) (Kd.S_types HO_535001.out BK543.out (by decide)) (fun _ hk => hk.2) (.slice Ao51 t536.length co51)) (fun _ hk => hk.2) (.slice Ao55 t539.length co55)) (fun _ h_ => h_.1))) hb); have n2_ := Aside0.mk (Kd.R_below (by (with_reducible repeat (first | apply Kd.R_alloc | apply Kd.R_drewN | apply Kd.R_drew)); exact (Kd.R_mono (Kd.R_far (p := ⟨gb543, 1, none⟩) (Kd.R_far (p := ⟨gb543, 0, none⟩) (Kd.R_types HO538.out BK543.out (by decide)) (fun _ hk => hk.2) (.slice Ao51 t536.length co51)) (fun _ hk => hk.2) (.slice Ao55 t539.length co55)) (fun _ h_ => h_.1))) hb); have n3_ := Aside0.mk (Kd.S_below (by (with_reducible repeat (first | apply Kd.S_alloc | apply Kd.S_drewN | apply Kd.S_drew)); exact (Kd.S_mono (Kd.S_far (p := ⟨gb543, 1, none⟩) (Kd.S_far (p := ⟨gb543, 0, none⟩) (Kd.S_types HO541.out BK543.out (by decide)) (fun _ hk => hk.2) (.slice Ao51 t536.length co51)) (fun _ hk => hk.2) (.slice Ao55 t539.length co55)) (fun _ h_ => h_.1))) hb); have n4_ := Aside0.mk (blk_below (g := gb523) (o := .cells #[.slice A0_0 l0_0.length c0_0, .slice A0_1 l0_1.length c0_1] 25 (0, 0)) (by (with_reducible repeat (first | refine blk_drewN ?_ _ | refine blk_drew ?_ | refine blk_alloc ?_ _)); refine blk_far ?_ NB523_543.out _; (with_reducible repeat (first | refine blk_drewN ?_ _ | refine blk_drew ?_ | refine blk_alloc ?_ _)); refine blk_far ?_ NB523_543.out _; (with_reducible repeat (first | refine blk_drewN ?_ _ | refine blk_drew ?_ | refine blk_alloc ?_ _)); exact BK523.out) hb); have n5_ := Aside0.mk (blk_below (g := gb534) (o := .cells #[.slice Ao33 t527.length co33, .slice Ao36 t530.length co36] 25 (0, 0)) (by (with_reducible repeat (first | refine blk_drewN ?_ _ | refine blk_drew ?_ | refine blk_alloc ?_ _)); refine blk_far ?_ NB534_543.out _; (with_reducible repeat (first | refine blk_drewN ?_ _ | refine blk_drew ?_ | refine blk_alloc ?_ _)); refine blk_far ?_ NB534_543.out _; (with_reducible repeat (first | refine blk_drewN ?_ _ | refine blk_drew ?_ | refine blk_alloc ?_ _)); exact BK534.out) hb); have n6_ := Aside0.mk (blk_below (g := gb543) (o := .cells #[.slice Ao51 t536.length co51, .slice Ao55 t539.length co55] 25 (0, 0)) (by (with_reducible repeat (first | refine blk_drewN ?_ _ | refine blk_drew ?_ | refine blk_alloc ?_ _)); refine blk_put (cs := #[.slice Ao51 t536.length co51, .slice none 0 0]) ?_ 1 _ rfl; (with_reducible repeat (first | refine blk_drewN ?_ _ | refine blk_drew ?_ | refine blk_alloc ?_ _)); refine blk_put (cs := #[.slice none 0 0, .slice none 0 0]) ?_ 0 _ rfl; (with_reducible repeat (first | refine blk_drewN ?_ _ | refine blk_drew ?_ | refine blk_alloc ?_ _)); exact BK543.out) hb); have n7_ := Aside0.mk (below_step (by repeat (first | (with_reducible first | exact HB.out | apply below_alloc | apply pw_below_drewN | apply below_drew1 | refine below_set ?_ GE523.out | refine below_set ?_ GE534.out | refine below_set ?_ GE543.out) | exact HB.out)) hb); clear HO_535000; clear HO_535001; clear HO538; clear HO541; clear BK523; clear BK534; clear BK543; clear HB; have HO_535000 := n0_; have HO_535001 := n1_; have HO538 := n2_; have HO541 := n3_; have BK523 := n4_; have BK534 := n5_; have BK543 := n6_; have HB := n7_; clear n0_ n1_ n2_ n3_ n4_ n5_ n6_ n7_; (try clear hb); (try clear hb2); (try clear hk); (try clear hi)))
          go_meet
          case rel => exact ⟨_, (true), sd_, H', ⟨by have := HJ4.out; have := HJ28.out; first | omega | exact Nat.le_refl _⟩, ⟨by (with_reducible repeat (first | apply Kd.R_alloc | apply Kd.R_drewN | apply Kd.R_drew)); exact Kd.R_mono HO_535000.out (fun _ hk => hk.2)⟩, ⟨by (with_reducible repeat (first | apply Kd.S_alloc | apply Kd.S_drewN | apply Kd.S_drew)); exact Kd.S_mono HO_535001.out (fun _ hk => hk.2)⟩, ⟨by (with_reducible repeat (first | apply Kd.R_alloc | apply Kd.R_drewN | apply Kd.R_drew)); exact Kd.R_mono HO538.out (fun _ hk => hk.2)⟩, ⟨by (with_reducible repeat (first | apply Kd.S_alloc | apply Kd.S_drewN | apply Kd.S_drew)); exact Kd.S_mono HO541.out (fun _ hk => hk.2)⟩, ⟨by (with_reducible repeat (first | refine blk_drewN ?_ _ | refine blk_drew ?_ | refine blk_alloc ?_ _)); exact BK523.out⟩, ⟨by (with_reducible repeat (first | refine blk_drewN ?_ _ | refine blk_drew ?_ | refine blk_alloc ?_ _)); exact BK534.out⟩, ⟨by (with_reducible repeat (first | refine blk_drewN ?_ _ | refine blk_drew ?_ | refine blk_alloc ?_ _)); exact BK543.out⟩, ⟨by repeat (first | (with_reducible first | exact HB.out | apply below_alloc | apply pw_below_drewN | apply below_drew1 | refine below_set ?_ GE523.out | refine below_set ?_ GE534.out | refine below_set ?_ GE543.out) | exact HB.out)⟩⟩
        case rest =>
         clear HC46
         try clear c1
         try clear c2
         try clear p2
         try clear c3
         try clear c4
         try clear c5
         try clear c6
         try clear p6
         try clear c8
         try clear c9
         try clear c11
         try clear c12
         try clear c12b0
         try clear c12b1
         try clear c27
         try clear c34
         try clear c37
         try clear c37b0
         try clear c37b1
         try clear c39
         try clear c43
         try clear c45
         try clear c45b0
         try clear c45b1
         try clear c47
         try clear c52
         try clear c53
         try clear c57
         try clear c58
         try clear c59
         try clear c63
         try clear p64
         try clear c65
         try clear c66
         try clear hcz13_0
         try clear hcz13_1
         try clear hcz15_0
         try clear hcz15_1
         try clear hcz17_0
         try clear hcz17_1
         try clear hcz19_0
         try clear hcz19_1
         try clear hcz21_0
         try clear hcz21_1
         try clear hcz23_0
         try clear hcz23_1
         try clear hcz25_0
         try clear hcz25_1
         try clear hcz30_0
         try clear hcz30_1
         try clear hcz35_0
         try clear hcz35_1
         try clear hcz40_0
         try clear hcz40_1
         try clear hcz41_0
         try clear hcz41_1
         try clear hcz48_0
         try clear hcz48_1
         try clear hcz54_0
         try clear hcz54_1
         try clear hcz60_0
         try clear hcz60_1
         try clear hcz62_0
         try clear hcz62_1
         try clear hcz64_0
         try clear hcz64_1
         try clear hcz67_0
         try clear hcz67_1
         try clear hfz13_0
         try clear hfz13_1
         try clear hfz15_0
         try clear hfz15_1
         try clear hfz17_0
         try clear hfz17_1
         try clear hfz19_0
         try clear hfz19_1
         try clear hfz21_0
         try clear hfz21_1
         try clear hfz23_0
         try clear hfz23_1
         try clear hfz25_0
         try clear hfz25_1
         try clear hfz30_0
         try clear hfz30_1
         try clear hfz35_0
         try clear hfz35_1
         try clear hfz40_0
         try clear hfz40_1
         try clear hfz41_0
         try clear hfz41_1
         try clear hfz48_0
         try clear hfz48_1
         try clear hfz54_0
         try clear hfz54_1
         try clear hfz60_0
         try clear hfz60_1
         try clear hfz62_0
         try clear hfz62_1
         try clear hfz64_0
         try clear hfz64_1
         try clear hfz67_0
         try clear hfz67_1
         try clear p2
         obtain ⟨kq, x85_45, rfl, HA, HJ45, HO_535000, HO_535001, HO_544000, HO_544001, BK523, BK534, BK543, HB⟩ := hcut
         cases kq with
         | zero => exact absurd HA.out (by simp [cohousinglaw26_ChainNext.j2])
         | succ kj45 =>
          have H := HA.out
          clear HA
          simp only [cohousinglaw26_ChainNext.j2] at H
          by_cases c69 : x85_45 = true
          ·subst c69
           have H1 : (some false) = some r := by rw [if_pos rfl] at H; exact H
           clear H
           have H := H1
           clear H1
           obtain rfl := Option.some.inj H
           go_wp2
           repeat (go_quiet (fail); try go_wp2)
           go_ret
           exact ⟨ew_, by repeat (first | (with_reducible first | exact HB.out | apply below_alloc | apply pw_below_drewN | apply below_drew1 | refine below_set ?_ GE523.out | refine below_set ?_ GE534.out | refine below_set ?_ GE543.out) | exact HB.out)⟩
          ·replace c69 := Bool.eq_false_iff.mpr c69
           subst c69
           have H1 : (cohousinglaw26_ChainNext.l0 kj45 l1 l2 t524 0 0 l0_0 l0_1 t536 t539) = some r := by rw [if_neg (show ¬ (false = true) by decide)] at H; exact H
           clear H
           have H := H1
           clear H1
           have H' := Aside0.mk H
           clear H
           go_wp2
           repeat (go_quiet (fail); try go_wp2)
           go_loopg [12, 13] kj45 (fun kq v12 v13 w' => ∃ (x12_4 : Int) (x13_4 : Int), v12 = .int .i64 x12_4 ∧ v13 = .int .i64 x13_4 ∧ Aside0 (cohousinglaw26_ChainNext.l0 kq l1 l2 t524 x12_4 x13_4 l0_0 l0_1 t536 t539 = some r) ∧ Aside0 (kq ≤ kj45) ∧ Aside0 (Kd.R k84 84 w' w.heap.size (fun k_ => some k_ ≠ ((.slice Ao51 t536.length co51) : Value).ownBlock) (.slice Ao33 t527.length co33) t527) ∧ Aside0 (Kd.S k46 46 w' w.heap.size (fun k_ => some k_ ≠ ((.slice Ao55 t539.length co55) : Value).ownBlock) (.slice Ao36 t530.length co36) t530) ∧ Aside0 (Kd.R k84 84 w' w.heap.size (fun k_ => some k_ ≠ ((.slice Ao33 t527.length co33) : Value).ownBlock) (.slice Ao51 t536.length co51) t536) ∧ Aside0 (Kd.S k46 46 w' w.heap.size (fun k_ => some k_ ≠ ((.slice Ao36 t530.length co36) : Value).ownBlock) (.slice Ao55 t539.length co55) t539) ∧ Aside0 (w'.heap[gb523]? = some (.cells #[(.slice A0_0 l0_0.length c0_0), (.slice A0_1 l0_1.length c0_1)] 25 (0, 0))) ∧ Aside0 (w'.heap[gb534]? = some (.cells #[(.slice Ao33 t527.length co33), (.slice Ao36 t530.length co36)] 25 (0, 0))) ∧ Aside0 (w'.heap[gb543]? = some (.cells #[(.slice Ao51 t536.length co51), (.slice Ao55 t539.length co55)] 25 (0, 0))) ∧ Aside0 (Below w.heap.size w w'))
           case atStart => exact ⟨(0), (0), sd_, sd_, H', ⟨Nat.le_refl _⟩, ⟨by (with_reducible repeat (first | apply Kd.R_alloc | apply Kd.R_drewN | apply Kd.R_drew)); exact HO_535000.out⟩, ⟨by (with_reducible repeat (first | apply Kd.S_alloc | apply Kd.S_drewN | apply Kd.S_drew)); exact HO_535001.out⟩, ⟨by (with_reducible repeat (first | apply Kd.R_alloc | apply Kd.R_drewN | apply Kd.R_drew)); exact HO_544000.out⟩, ⟨by (with_reducible repeat (first | apply Kd.S_alloc | apply Kd.S_drewN | apply Kd.S_drew)); exact HO_544001.out⟩, ⟨by (with_reducible repeat (first | refine blk_drewN ?_ _ | refine blk_drew ?_ | refine blk_alloc ?_ _)); exact BK523.out⟩, ⟨by (with_reducible repeat (first | refine blk_drewN ?_ _ | refine blk_drew ?_ | refine blk_alloc ?_ _)); exact BK534.out⟩, ⟨by (with_reducible repeat (first | refine blk_drewN ?_ _ | refine blk_drew ?_ | refine blk_alloc ?_ _)); exact BK543.out⟩, ⟨by repeat (first | (with_reducible first | exact HB.out | apply below_alloc | apply pw_below_drewN | apply below_drew1 | refine below_set ?_ GE523.out | refine below_set ?_ GE534.out | refine below_set ?_ GE543.out) | exact HB.out)⟩⟩
           case round =>
            clear H'
            try clear c1
            try clear c2
            try clear p2
            try clear c3
            try clear c4
            try clear c5
            try clear c6
            try clear p6
            try clear c8
            try clear c9
            try clear c11
            try clear c12
            try clear c12b0
            try clear c12b1
            try clear c27
            try clear c34
            try clear c37
            try clear c37b0
            try clear c37b1
            try clear c39
            try clear c43
            try clear c45
            try clear c45b0
            try clear c45b1
            try clear c47
            try clear c52
            try clear c53
            try clear c57
            try clear c58
            try clear c59
            try clear c63
            try clear p64
            try clear c65
            try clear c66
            try clear c69
            try clear hcz13_0
            try clear hcz13_1
            try clear hcz15_0
            try clear hcz15_1
            try clear hcz17_0
            try clear hcz17_1
            try clear hcz19_0
            try clear hcz19_1
            try clear hcz21_0
            try clear hcz21_1
            try clear hcz23_0
            try clear hcz23_1
            try clear hcz25_0
            try clear hcz25_1
            try clear hcz30_0
            try clear hcz30_1
            try clear hcz35_0
            try clear hcz35_1
            try clear hcz40_0
            try clear hcz40_1
            try clear hcz41_0
            try clear hcz41_1
            try clear hcz48_0
            try clear hcz48_1
            try clear hcz54_0
            try clear hcz54_1
            try clear hcz60_0
            try clear hcz60_1
            try clear hcz62_0
            try clear hcz62_1
            try clear hcz64_0
            try clear hcz64_1
            try clear hcz67_0
            try clear hcz67_1
            try clear hfz13_0
            try clear hfz13_1
            try clear hfz15_0
            try clear hfz15_1
            try clear hfz17_0
            try clear hfz17_1
            try clear hfz19_0
            try clear hfz19_1
            try clear hfz21_0
            try clear hfz21_1
            try clear hfz23_0
            try clear hfz23_1
            try clear hfz25_0
            try clear hfz25_1
            try clear hfz30_0
            try clear hfz30_1
            try clear hfz35_0
            try clear hfz35_1
            try clear hfz40_0
            try clear hfz40_1
            try clear hfz41_0
            try clear hfz41_1
            try clear hfz48_0
            try clear hfz48_1
            try clear hfz54_0
            try clear hfz54_1
            try clear hfz60_0
            try clear hfz60_1
            try clear hfz62_0
            try clear hfz62_1
            try clear hfz64_0
            try clear hfz64_1
            try clear hfz67_0
            try clear hfz67_1
            try clear p2
            try clear p6
            try clear p64
            obtain ⟨x12_4, x13_4, rfl, rfl, HA, HK4, HO_535000, HO_535001, HO_544000, HO_544001, BK523, BK534, BK543, HB⟩ := hrel
            cases gk with
            | zero => exact absurd HA.out (by simp [cohousinglaw26_ChainNext.l0])
            | succ k4 =>
             have H := HA.out
             clear HA
             simp only [cohousinglaw26_ChainNext.l0] at H
             by_cases c70 : x13_4 < (l0_1.length : Int)
             ·rw [if_pos c70] at H
              have c70b0 : decide (x13_4 < (l0_1.length : Int)) = true := decide_eq_true c70
              clear c70
              by_cases c71 : 0 ≤ x13_4
              ·rw [if_pos c71] at H
               have c71b0 : decide (0 ≤ x13_4) = true := decide_eq_true c71
               clear c71
               replace H := Option.bind_eq_some_iff.mp H
               obtain ⟨t547, A720, H⟩ := H
               replace H : (if t547 ≥ 0 then (cohousinglaw26_ChainNext.l0 k4 l1 l2 t524 x12_4 (wrap64 (x13_4 + 1)) l0_0 l0_1 t536 t539) else (cohousinglaw26_ChainNext.l1 k4 l1 l2 t524 x12_4 x13_4 ((rd_T46 l0_1 x13_4).f1) 0 l0_0 l0_1 t536 t539 ((rd_T46 l0_1 x13_4).f0) ((rd_T46 l0_1 x13_4).f1) ((rd_T46 l0_1 x13_4).f2))) = some r := H
               have A72 := Aside0.mk A720
               clear A720
               by_cases c73 : t547 ≥ 0
               ·rw [if_pos c73] at H
                have c73b0 : decide (0 ≤ t547) = true := decide_eq_true c73
                clear c73
                have H' := Aside0.mk H
                clear H
                have hnb74 := NB523_534.out
                have hnc74 := NB534_523.out
                have hnb75 := NB523_543.out
                have hnc75 := NB543_523.out
                have hcz76_0 : wr.cell? ⟨gb523, 0, none⟩ = some (.slice A0_0 l0_0.length c0_0) := (blk_cell BK523.out 0).trans rfl
                have hcz76_1 : wr.cell? ⟨gb523, 1, none⟩ = some (.slice A0_1 l0_1.length c0_1) := (blk_cell BK523.out 1).trans rfl
                have hfz76_0 := blk_frozen BK523.out 0
                have hfz76_1 := blk_frozen BK523.out 1
                have p545 : 0 ≤ (x13_4 : Int) := od_
                have q545 : x13_4 < (l0_1.length : Int) := od_
                obtain ⟨ad545, A545_2, c545_2, e545, hx545_0, hx545_1, hx545_2, hl545_2, hi545_2⟩ := at_T46 HR0_1.out x13_4 p545 q545
                cases e545
                replace hx545_0 := (HB.out.cell (World.block_lt_of_cell? w _ hx545_0)).trans hx545_0
                replace hx545_1 := (HB.out.cell (World.block_lt_of_cell? w _ hx545_1)).trans hx545_1
                replace hx545_2 := (HB.out.cell (World.block_lt_of_cell? w _ hx545_2)).trans hx545_2
                have HR545_2 := Aside0.mk hi545_2
                have HC545_2 := Aside0.mk hl545_2
                clear hi545_2 hl545_2
                replace p545 := eq_true p545
                replace q545 := eq_true q545
                go_wp2_with (first | ((with_reducible refine gate_dst (N := 14) rfl ?_); (try (refine gate_guard (by rfl) ?_; dsimp only)); refine box_event ?hg (N := 14) ?hd (cs := #[.int .i64 0, .int .i64 0, .slice none 0 0]) (t := 46) ?hr ?_; (case hd => rfl); (case hg => rfl); (case hr => first | (go_simp; done) | (go_simp; rfl)); intro gb546 hg w77 hbox hb; have n0_ := Aside0.mk (Kd.R_below (rr_ HO_535000) hb); have n1_ := Aside0.mk (Kd.S_below (Kd.S_elderB (by (with_reducible repeat (first | apply Kd.S_alloc | apply Kd.S_drewN | apply Kd.S_drew)); exact HO_535001.out) gb546 (Nat.le_of_eq hg.symm)) hb); have n2_ := Aside0.mk (Kd.R_below (rr_ HO_544000) hb); have n3_ := Aside0.mk (Kd.S_below (Kd.S_elderB (by (with_reducible repeat (first | apply Kd.S_alloc | apply Kd.S_drewN | apply Kd.S_drew)); exact HO_544001.out) gb546 (Nat.le_of_eq hg.symm)) hb); have n4_ := Aside0.mk (blk_below (g := gb523) (o := .cells #[.slice A0_0 l0_0.length c0_0, .slice (some ad545) l0_1.length c0_1] 25 (0, 0)) (kk_ BK523) hb); have n5_ := Aside0.mk (blk_below (g := gb534) (o := .cells #[.slice Ao33 t527.length co33, .slice Ao36 t530.length co36] 25 (0, 0)) (kk_ BK534) hb); have n6_ := Aside0.mk (blk_below (g := gb543) (o := .cells #[.slice Ao51 t536.length co51, .slice Ao55 t539.length co55] 25 (0, 0)) (kk_ BK543) hb); have n7_ := Aside0.mk (below_step (by repeat (first | (with_reducible first | exact HB.out | apply below_alloc | apply pw_below_drewN | apply below_drew1 | refine below_set ?_ GE523.out | refine below_set ?_ GE534.out | refine below_set ?_ GE543.out) | exact HB.out)) hb); have n8_ := Aside0.mk (hbox); have n9_ := Aside0.mk ((by rw [hg]; exact (below_size (by repeat (first | (with_reducible first | exact HB.out | apply below_alloc | apply pw_below_drewN | apply below_drew1 | refine below_set ?_ GE523.out | refine below_set ?_ GE534.out | refine below_set ?_ GE543.out) | exact HB.out))) : w.heap.size ≤ gb546)); have n10_ := Aside0.mk ((by rw [hg]; exact (below_size (by repeat (first | (with_reducible first | exact HB.out | apply below_alloc | apply pw_below_drewN | apply below_drew1 | refine below_set ?_ GE523.out | refine below_set ?_ GE534.out | refine below_set ?_ GE543.out) | exact HB.out))) : w.heap.size ≤ gb546)); have n11_ := Aside0.mk ((by rw [hg]; exact Nat.ne_of_lt (blk_lt (g := gb523) (o := .cells #[.slice A0_0 l0_0.length c0_0, .slice (some ad545) l0_1.length c0_1] 25 (0, 0)) (kk_ BK523)) : gb523 ≠ gb546)); have n12_ := Aside0.mk ((by rw [hg]; exact Nat.ne_of_gt (blk_lt (g := gb523) (o := .cells #[.slice A0_0 l0_0.length c0_0, .slice (some ad545) l0_1.length c0_1] 25 (0, 0)) (kk_ BK523)) : gb546 ≠ gb523)); have n13_ := Aside0.mk ((by rw [hg]; exact Nat.ne_of_lt (blk_lt (g := gb534) (o := .cells #[.slice Ao33 t527.length co33, .slice Ao36 t530.length co36] 25 (0, 0)) (kk_ BK534)) : gb534 ≠ gb546)); have n14_ := Aside0.mk ((by rw [hg]; exact Nat.ne_of_gt (blk_lt (g := gb534) (o := .cells #[.slice Ao33 t527.length co33, .slice Ao36 t530.length co36] 25 (0, 0)) (kk_ BK534)) : gb546 ≠ gb534)); have n15_ := Aside0.mk ((by rw [hg]; exact Nat.ne_of_lt (blk_lt (g := gb543) (o := .cells #[.slice Ao51 t536.length co51, .slice Ao55 t539.length co55] 25 (0, 0)) (kk_ BK543)) : gb543 ≠ gb546)); have n16_ := Aside0.mk ((by rw [hg]; exact Nat.ne_of_gt (blk_lt (g := gb543) (o := .cells #[.slice Ao51 t536.length co51, .slice Ao55 t539.length co55] 25 (0, 0)) (kk_ BK543)) : gb546 ≠ gb543)); clear HO_535000; clear HO_535001; clear HO_544000; clear HO_544001; clear BK523; clear BK534; clear BK543; clear HB; have HO_535000 := n0_; have HO_535001 := n1_; have HO_544000 := n2_; have HO_544001 := n3_; have BK523 := n4_; have BK534 := n5_; have BK543 := n6_; have HB := n7_; have BK546 := n8_; have GW546 := n9_; have GE546 := n10_; have NB523_546 := n11_; have NB546_523 := n12_; have NB534_546 := n13_; have NB546_534 := n14_; have NB543_546 := n15_; have NB546_543 := n16_; clear n0_ n1_ n2_ n3_ n4_ n5_ n6_ n7_ n8_ n9_ n10_ n11_ n12_ n13_ n14_ n15_ n16_; clear hb hbox hg; have hnb78 := NB546_523.out; have hnc78 := NB523_546.out; have hnb79 := NB546_534.out; have hnc79 := NB534_546.out; have hnb80 := NB546_543.out; have hnc80 := NB543_546.out; have hcz81_0 : w77.cell? ⟨gb546, 0, none⟩ = some (.int .i64 0) := (blk_cell BK546.out 0).trans rfl; have hcz81_1 : w77.cell? ⟨gb546, 1, none⟩ = some (.int .i64 0) := (blk_cell BK546.out 1).trans rfl; have hcz81_2 : w77.cell? ⟨gb546, 2, none⟩ = some (.slice none 0 0) := (blk_cell BK546.out 2).trans rfl; have hfz81_0 := blk_frozen BK546.out 0; have hfz81_1 := blk_frozen BK546.out 1; have hfz81_2 := blk_frozen BK546.out 2) | (go_at_call 24; (with_reducible refine (cohousingref23_In.calls k4 _ _ l2 ((rd_T46 l0_1 x13_4).f0) t547 _ ?side1 ?side2 A72.out).mono ?_); (case side1 => exact Kd.C_below HR2.out (by repeat (first | (with_reducible first | exact HB.out | apply below_alloc | apply pw_below_drewN | apply below_drew1 | refine below_set ?_ GE523.out | refine below_set ?_ GE534.out | refine below_set ?_ GE543.out | refine below_set ?_ GE546.out) | exact HB.out))); (case side2 => exact HC2.out); rintro e w' ⟨rfl, ⟨nd, rfl⟩⟩; (try first | exact ⟨rfl, _, World.drewN_drewN _ _ _⟩ | exact ⟨rfl, _, Eq.trans (World.drewN_drewN _ _ _) (congrArg (World.drewN _) (Nat.add_assoc _ _ _))⟩)))
                go_roundg k4
                case measure => have := HJ4.out; have := HJ28.out; have := HJ45.out; have := HK4.out; omega
                case rel => exact ⟨(x12_4), (wrap64 (x13_4 + 1)), sd_, sd_, H', ⟨by have := HJ4.out; have := HJ28.out; have := HJ45.out; have := HK4.out; omega⟩, ⟨by (with_reducible repeat (first | apply Kd.R_alloc | apply Kd.R_drewN | apply Kd.R_drew)); exact Kd.R_mono (Kd.R_far (p := ⟨gb546, 2, none⟩) (Kd.R_far (p := ⟨gb546, 1, none⟩) (Kd.R_far (p := ⟨gb546, 0, none⟩) (Kd.R_types HO_535000.out BK546.out (by decide)) (fun _ hk => hk.2) (.int .i64 ((rd_T46 l0_1 x13_4).f0))) (fun _ hk => hk.2) (.int .i64 ((rd_T46 l0_1 x13_4).f1))) (fun _ hk => hk.2) (.slice A545_2 ((rd_T46 l0_1 x13_4).f2).length c545_2)) (fun _ hk => hk.1)⟩, ⟨by (with_reducible repeat (first | apply Kd.S_alloc | apply Kd.S_drewN | apply Kd.S_drew)); exact Kd.S_mono (Kd.S_far (p := ⟨gb546, 2, none⟩) (Kd.S_far (p := ⟨gb546, 1, none⟩) (Kd.S_far (p := ⟨gb546, 0, none⟩) (Kd.S_mono HO_535001.out (fun k_ hk => (⟨hk, hk.2⟩ : _ ∧ k_ ≠ gb546))) (fun _ hk => hk.2) (.int .i64 ((rd_T46 l0_1 x13_4).f0))) (fun _ hk => hk.2) (.int .i64 ((rd_T46 l0_1 x13_4).f1))) (fun _ hk => hk.2) (.slice A545_2 ((rd_T46 l0_1 x13_4).f2).length c545_2)) (fun _ hk => hk.1.1)⟩, ⟨by (with_reducible repeat (first | apply Kd.R_alloc | apply Kd.R_drewN | apply Kd.R_drew)); exact Kd.R_mono (Kd.R_far (p := ⟨gb546, 2, none⟩) (Kd.R_far (p := ⟨gb546, 1, none⟩) (Kd.R_far (p := ⟨gb546, 0, none⟩) (Kd.R_types HO_544000.out BK546.out (by decide)) (fun _ hk => hk.2) (.int .i64 ((rd_T46 l0_1 x13_4).f0))) (fun _ hk => hk.2) (.int .i64 ((rd_T46 l0_1 x13_4).f1))) (fun _ hk => hk.2) (.slice A545_2 ((rd_T46 l0_1 x13_4).f2).length c545_2)) (fun _ hk => hk.1)⟩, ⟨by (with_reducible repeat (first | apply Kd.S_alloc | apply Kd.S_drewN | apply Kd.S_drew)); exact Kd.S_mono (Kd.S_far (p := ⟨gb546, 2, none⟩) (Kd.S_far (p := ⟨gb546, 1, none⟩) (Kd.S_far (p := ⟨gb546, 0, none⟩) (Kd.S_mono HO_544001.out (fun k_ hk => (⟨hk, hk.2⟩ : _ ∧ k_ ≠ gb546))) (fun _ hk => hk.2) (.int .i64 ((rd_T46 l0_1 x13_4).f0))) (fun _ hk => hk.2) (.int .i64 ((rd_T46 l0_1 x13_4).f1))) (fun _ hk => hk.2) (.slice A545_2 ((rd_T46 l0_1 x13_4).f2).length c545_2)) (fun _ hk => hk.1.1)⟩, ⟨by (with_reducible repeat (first | refine blk_drewN ?_ _ | refine blk_drew ?_ | refine blk_alloc ?_ _)); refine blk_far ?_ NB523_546.out _; (with_reducible repeat (first | refine blk_drewN ?_ _ | refine blk_drew ?_ | refine blk_alloc ?_ _)); refine blk_far ?_ NB523_546.out _; (with_reducible repeat (first | refine blk_drewN ?_ _ | refine blk_drew ?_ | refine blk_alloc ?_ _)); refine blk_far ?_ NB523_546.out _; (with_reducible repeat (first | refine blk_drewN ?_ _ | refine blk_drew ?_ | refine blk_alloc ?_ _)); exact BK523.out⟩, ⟨by (with_reducible repeat (first | refine blk_drewN ?_ _ | refine blk_drew ?_ | refine blk_alloc ?_ _)); refine blk_far ?_ NB534_546.out _; (with_reducible repeat (first | refine blk_drewN ?_ _ | refine blk_drew ?_ | refine blk_alloc ?_ _)); refine blk_far ?_ NB534_546.out _; (with_reducible repeat (first | refine blk_drewN ?_ _ | refine blk_drew ?_ | refine blk_alloc ?_ _)); refine blk_far ?_ NB534_546.out _; (with_reducible repeat (first | refine blk_drewN ?_ _ | refine blk_drew ?_ | refine blk_alloc ?_ _)); exact BK534.out⟩, ⟨by (with_reducible repeat (first | refine blk_drewN ?_ _ | refine blk_drew ?_ | refine blk_alloc ?_ _)); refine blk_far ?_ NB543_546.out _; (with_reducible repeat (first | refine blk_drewN ?_ _ | refine blk_drew ?_ | refine blk_alloc ?_ _)); refine blk_far ?_ NB543_546.out _; (with_reducible repeat (first | refine blk_drewN ?_ _ | refine blk_drew ?_ | refine blk_alloc ?_ _)); refine blk_far ?_ NB543_546.out _; (with_reducible repeat (first | refine blk_drewN ?_ _ | refine blk_drew ?_ | refine blk_alloc ?_ _)); exact BK543.out⟩, ⟨by repeat (first | (with_reducible first | exact HB.out | apply below_alloc | apply pw_below_drewN | apply below_drew1 | refine below_set ?_ GE523.out | refine below_set ?_ GE534.out | refine below_set ?_ GE543.out | refine below_set ?_ GE546.out) | exact HB.out)⟩⟩
               ·rw [if_neg c73] at H
                have c73b0 : decide (0 ≤ t547) = false := decide_eq_false c73
                clear c73
                have H' := Aside0.mk H
                clear H
                have hnb82 := NB523_534.out
                have hnc82 := NB534_523.out
                have hnb83 := NB523_543.out
                have hnc83 := NB543_523.out
                have hcz84_0 : wr.cell? ⟨gb523, 0, none⟩ = some (.slice A0_0 l0_0.length c0_0) := (blk_cell BK523.out 0).trans rfl
                have hcz84_1 : wr.cell? ⟨gb523, 1, none⟩ = some (.slice A0_1 l0_1.length c0_1) := (blk_cell BK523.out 1).trans rfl
                have hfz84_0 := blk_frozen BK523.out 0
                have hfz84_1 := blk_frozen BK523.out 1
                have p545 : 0 ≤ (x13_4 : Int) := od_
                have q545 : x13_4 < (l0_1.length : Int) := od_
                obtain ⟨ad545, A545_2, c545_2, e545, hx545_0, hx545_1, hx545_2, hl545_2, hi545_2⟩ := at_T46 HR0_1.out x13_4 p545 q545
                cases e545
                replace hx545_0 := (HB.out.cell (World.block_lt_of_cell? w _ hx545_0)).trans hx545_0
                replace hx545_1 := (HB.out.cell (World.block_lt_of_cell? w _ hx545_1)).trans hx545_1
                replace hx545_2 := (HB.out.cell (World.block_lt_of_cell? w _ hx545_2)).trans hx545_2
                have HR545_2 := Aside0.mk hi545_2
                have HC545_2 := Aside0.mk hl545_2
                clear hi545_2 hl545_2
                replace p545 := eq_true p545
                replace q545 := eq_true q545
                go_wp2_with (first | ((with_reducible refine gate_dst (N := 14) rfl ?_); (try (refine gate_guard (by rfl) ?_; dsimp only)); refine box_event ?hg (N := 14) ?hd (cs := #[.int .i64 0, .int .i64 0, .slice none 0 0]) (t := 46) ?hr ?_; (case hd => rfl); (case hg => rfl); (case hr => first | (go_simp; done) | (go_simp; rfl)); intro gb546 hg w85 hbox hb; have n0_ := Aside0.mk (Kd.R_below (rr_ HO_535000) hb); have n1_ := Aside0.mk (Kd.S_below (Kd.S_elderB (by (with_reducible repeat (first | apply Kd.S_alloc | apply Kd.S_drewN | apply Kd.S_drew)); exact HO_535001.out) gb546 (Nat.le_of_eq hg.symm)) hb); have n2_ := Aside0.mk (Kd.R_below (rr_ HO_544000) hb); have n3_ := Aside0.mk (Kd.S_below (Kd.S_elderB (by (with_reducible repeat (first | apply Kd.S_alloc | apply Kd.S_drewN | apply Kd.S_drew)); exact HO_544001.out) gb546 (Nat.le_of_eq hg.symm)) hb); have n4_ := Aside0.mk (blk_below (g := gb523) (o := .cells #[.slice A0_0 l0_0.length c0_0, .slice (some ad545) l0_1.length c0_1] 25 (0, 0)) (kk_ BK523) hb); have n5_ := Aside0.mk (blk_below (g := gb534) (o := .cells #[.slice Ao33 t527.length co33, .slice Ao36 t530.length co36] 25 (0, 0)) (kk_ BK534) hb); have n6_ := Aside0.mk (blk_below (g := gb543) (o := .cells #[.slice Ao51 t536.length co51, .slice Ao55 t539.length co55] 25 (0, 0)) (kk_ BK543) hb); have n7_ := Aside0.mk (below_step (by repeat (first | (with_reducible first | exact HB.out | apply below_alloc | apply pw_below_drewN | apply below_drew1 | refine below_set ?_ GE523.out | refine below_set ?_ GE534.out | refine below_set ?_ GE543.out) | exact HB.out)) hb); have n8_ := Aside0.mk (hbox); have n9_ := Aside0.mk ((by rw [hg]; exact (below_size (by repeat (first | (with_reducible first | exact HB.out | apply below_alloc | apply pw_below_drewN | apply below_drew1 | refine below_set ?_ GE523.out | refine below_set ?_ GE534.out | refine below_set ?_ GE543.out) | exact HB.out))) : w.heap.size ≤ gb546)); have n10_ := Aside0.mk ((by rw [hg]; exact (below_size (by repeat (first | (with_reducible first | exact HB.out | apply below_alloc | apply pw_below_drewN | apply below_drew1 | refine below_set ?_ GE523.out | refine below_set ?_ GE534.out | refine below_set ?_ GE543.out) | exact HB.out))) : w.heap.size ≤ gb546)); have n11_ := Aside0.mk ((by rw [hg]; exact Nat.ne_of_lt (blk_lt (g := gb523) (o := .cells #[.slice A0_0 l0_0.length c0_0, .slice (some ad545) l0_1.length c0_1] 25 (0, 0)) (kk_ BK523)) : gb523 ≠ gb546)); have n12_ := Aside0.mk ((by rw [hg]; exact Nat.ne_of_gt (blk_lt (g := gb523) (o := .cells #[.slice A0_0 l0_0.length c0_0, .slice (some ad545) l0_1.length c0_1] 25 (0, 0)) (kk_ BK523)) : gb546 ≠ gb523)); have n13_ := Aside0.mk ((by rw [hg]; exact Nat.ne_of_lt (blk_lt (g := gb534) (o := .cells #[.slice Ao33 t527.length co33, .slice Ao36 t530.length co36] 25 (0, 0)) (kk_ BK534)) : gb534 ≠ gb546)); have n14_ := Aside0.mk ((by rw [hg]; exact Nat.ne_of_gt (blk_lt (g := gb534) (o := .cells #[.slice Ao33 t527.length co33, .slice Ao36 t530.length co36] 25 (0, 0)) (kk_ BK534)) : gb546 ≠ gb534)); have n15_ := Aside0.mk ((by rw [hg]; exact Nat.ne_of_lt (blk_lt (g := gb543) (o := .cells #[.slice Ao51 t536.length co51, .slice Ao55 t539.length co55] 25 (0, 0)) (kk_ BK543)) : gb543 ≠ gb546)); have n16_ := Aside0.mk ((by rw [hg]; exact Nat.ne_of_gt (blk_lt (g := gb543) (o := .cells #[.slice Ao51 t536.length co51, .slice Ao55 t539.length co55] 25 (0, 0)) (kk_ BK543)) : gb546 ≠ gb543)); clear HO_535000; clear HO_535001; clear HO_544000; clear HO_544001; clear BK523; clear BK534; clear BK543; clear HB; have HO_535000 := n0_; have HO_535001 := n1_; have HO_544000 := n2_; have HO_544001 := n3_; have BK523 := n4_; have BK534 := n5_; have BK543 := n6_; have HB := n7_; have BK546 := n8_; have GW546 := n9_; have GE546 := n10_; have NB523_546 := n11_; have NB546_523 := n12_; have NB534_546 := n13_; have NB546_534 := n14_; have NB543_546 := n15_; have NB546_543 := n16_; clear n0_ n1_ n2_ n3_ n4_ n5_ n6_ n7_ n8_ n9_ n10_ n11_ n12_ n13_ n14_ n15_ n16_; clear hb hbox hg; have hnb86 := NB546_523.out; have hnc86 := NB523_546.out; have hnb87 := NB546_534.out; have hnc87 := NB534_546.out; have hnb88 := NB546_543.out; have hnc88 := NB543_546.out; have hcz89_0 : w85.cell? ⟨gb546, 0, none⟩ = some (.int .i64 0) := (blk_cell BK546.out 0).trans rfl; have hcz89_1 : w85.cell? ⟨gb546, 1, none⟩ = some (.int .i64 0) := (blk_cell BK546.out 1).trans rfl; have hcz89_2 : w85.cell? ⟨gb546, 2, none⟩ = some (.slice none 0 0) := (blk_cell BK546.out 2).trans rfl; have hfz89_0 := blk_frozen BK546.out 0; have hfz89_1 := blk_frozen BK546.out 1; have hfz89_2 := blk_frozen BK546.out 2) | (go_at_call 24; (with_reducible refine (cohousingref23_In.calls k4 _ _ l2 ((rd_T46 l0_1 x13_4).f0) t547 _ ?side1 ?side2 A72.out).mono ?_); (case side1 => exact Kd.C_below HR2.out (by repeat (first | (with_reducible first | exact HB.out | apply below_alloc | apply pw_below_drewN | apply below_drew1 | refine below_set ?_ GE523.out | refine below_set ?_ GE534.out | refine below_set ?_ GE543.out | refine below_set ?_ GE546.out) | exact HB.out))); (case side2 => exact HC2.out); rintro e w' ⟨rfl, ⟨nd, rfl⟩⟩; (try first | exact ⟨rfl, _, World.drewN_drewN _ _ _⟩ | exact ⟨rfl, _, Eq.trans (World.drewN_drewN _ _ _) (congrArg (World.drewN _) (Nat.add_assoc _ _ _))⟩)))
                go_loopg [15, 16] k4 (fun kq v15 v16 w' => ∃ (x15_5 : Int) (x16_5 : Int), v15 = .int .i64 x15_5 ∧ v16 = .int .i64 x16_5 ∧ Aside0 (cohousinglaw26_ChainNext.l1 kq l1 l2 t524 x12_4 x13_4 x15_5 x16_5 l0_0 l0_1 t536 t539 ((rd_T46 l0_1 x13_4).f0) ((rd_T46 l0_1 x13_4).f1) ((rd_T46 l0_1 x13_4).f2) = some r) ∧ Aside0 (kq ≤ k4) ∧ Aside0 (Kd.R k84 84 w' w.heap.size (fun k_ => some k_ ≠ ((.slice Ao51 t536.length co51) : Value).ownBlock) (.slice Ao33 t527.length co33) t527) ∧ Aside0 (Kd.S k46 46 w' w.heap.size (fun k_ => some k_ ≠ ((.slice Ao55 t539.length co55) : Value).ownBlock ∧ k_ ≠ gb546) (.slice Ao36 t530.length co36) t530) ∧ Aside0 (Kd.R k84 84 w' w.heap.size (fun k_ => some k_ ≠ ((.slice Ao33 t527.length co33) : Value).ownBlock) (.slice Ao51 t536.length co51) t536) ∧ Aside0 (Kd.S k46 46 w' w.heap.size (fun k_ => some k_ ≠ ((.slice Ao36 t530.length co36) : Value).ownBlock ∧ k_ ≠ gb546) (.slice Ao55 t539.length co55) t539) ∧ Aside0 (w'.heap[gb523]? = some (.cells #[(.slice A0_0 l0_0.length c0_0), (.slice (some ad545) l0_1.length c0_1)] 25 (0, 0))) ∧ Aside0 (w'.heap[gb534]? = some (.cells #[(.slice Ao33 t527.length co33), (.slice Ao36 t530.length co36)] 25 (0, 0))) ∧ Aside0 (w'.heap[gb543]? = some (.cells #[(.slice Ao51 t536.length co51), (.slice Ao55 t539.length co55)] 25 (0, 0))) ∧ Aside0 (w'.heap[gb546]? = some (.cells #[.int .i64 ((rd_T46 l0_1 x13_4).f0), .int .i64 ((rd_T46 l0_1 x13_4).f1), (.slice A545_2 ((rd_T46 l0_1 x13_4).f2).length c545_2)] 46 (0, 0))) ∧ Aside0 (Below w.heap.size w w'))
                case atStart => exact ⟨((rd_T46 l0_1 x13_4).f1), (0), sd_, sd_, H', ⟨Nat.le_refl _⟩, ⟨by (with_reducible repeat (first | apply Kd.R_alloc | apply Kd.R_drewN | apply Kd.R_drew)); exact Kd.R_mono (Kd.R_far (p := ⟨gb546, 2, none⟩) (Kd.R_far (p := ⟨gb546, 1, none⟩) (Kd.R_far (p := ⟨gb546, 0, none⟩) (Kd.R_types HO_535000.out BK546.out (by decide)) (fun _ hk => hk.2) (.int .i64 ((rd_T46 l0_1 x13_4).f0))) (fun _ hk => hk.2) (.int .i64 ((rd_T46 l0_1 x13_4).f1))) (fun _ hk => hk.2) (.slice A545_2 ((rd_T46 l0_1 x13_4).f2).length c545_2)) (fun _ hk => hk.1)⟩, ⟨by (with_reducible repeat (first | apply Kd.S_alloc | apply Kd.S_drewN | apply Kd.S_drew)); exact Kd.S_mono (Kd.S_far (p := ⟨gb546, 2, none⟩) (Kd.S_far (p := ⟨gb546, 1, none⟩) (Kd.S_far (p := ⟨gb546, 0, none⟩) (Kd.S_mono HO_535001.out (fun k_ hk => (⟨hk, hk.2⟩ : _ ∧ k_ ≠ gb546))) (fun _ hk => hk.2) (.int .i64 ((rd_T46 l0_1 x13_4).f0))) (fun _ hk => hk.2) (.int .i64 ((rd_T46 l0_1 x13_4).f1))) (fun _ hk => hk.2) (.slice A545_2 ((rd_T46 l0_1 x13_4).f2).length c545_2)) (fun _ hk => ⟨hk.1.1, hk.1.2⟩)⟩, ⟨by (with_reducible repeat (first | apply Kd.R_alloc | apply Kd.R_drewN | apply Kd.R_drew)); exact Kd.R_mono (Kd.R_far (p := ⟨gb546, 2, none⟩) (Kd.R_far (p := ⟨gb546, 1, none⟩) (Kd.R_far (p := ⟨gb546, 0, none⟩) (Kd.R_types HO_544000.out BK546.out (by decide)) (fun _ hk => hk.2) (.int .i64 ((rd_T46 l0_1 x13_4).f0))) (fun _ hk => hk.2) (.int .i64 ((rd_T46 l0_1 x13_4).f1))) (fun _ hk => hk.2) (.slice A545_2 ((rd_T46 l0_1 x13_4).f2).length c545_2)) (fun _ hk => hk.1)⟩, ⟨by (with_reducible repeat (first | apply Kd.S_alloc | apply Kd.S_drewN | apply Kd.S_drew)); exact Kd.S_mono (Kd.S_far (p := ⟨gb546, 2, none⟩) (Kd.S_far (p := ⟨gb546, 1, none⟩) (Kd.S_far (p := ⟨gb546, 0, none⟩) (Kd.S_mono HO_544001.out (fun k_ hk => (⟨hk, hk.2⟩ : _ ∧ k_ ≠ gb546))) (fun _ hk => hk.2) (.int .i64 ((rd_T46 l0_1 x13_4).f0))) (fun _ hk => hk.2) (.int .i64 ((rd_T46 l0_1 x13_4).f1))) (fun _ hk => hk.2) (.slice A545_2 ((rd_T46 l0_1 x13_4).f2).length c545_2)) (fun _ hk => ⟨hk.1.1, hk.1.2⟩)⟩, ⟨by (with_reducible repeat (first | refine blk_drewN ?_ _ | refine blk_drew ?_ | refine blk_alloc ?_ _)); refine blk_far ?_ NB523_546.out _; (with_reducible repeat (first | refine blk_drewN ?_ _ | refine blk_drew ?_ | refine blk_alloc ?_ _)); refine blk_far ?_ NB523_546.out _; (with_reducible repeat (first | refine blk_drewN ?_ _ | refine blk_drew ?_ | refine blk_alloc ?_ _)); refine blk_far ?_ NB523_546.out _; (with_reducible repeat (first | refine blk_drewN ?_ _ | refine blk_drew ?_ | refine blk_alloc ?_ _)); exact BK523.out⟩, ⟨by (with_reducible repeat (first | refine blk_drewN ?_ _ | refine blk_drew ?_ | refine blk_alloc ?_ _)); refine blk_far ?_ NB534_546.out _; (with_reducible repeat (first | refine blk_drewN ?_ _ | refine blk_drew ?_ | refine blk_alloc ?_ _)); refine blk_far ?_ NB534_546.out _; (with_reducible repeat (first | refine blk_drewN ?_ _ | refine blk_drew ?_ | refine blk_alloc ?_ _)); refine blk_far ?_ NB534_546.out _; (with_reducible repeat (first | refine blk_drewN ?_ _ | refine blk_drew ?_ | refine blk_alloc ?_ _)); exact BK534.out⟩, ⟨by (with_reducible repeat (first | refine blk_drewN ?_ _ | refine blk_drew ?_ | refine blk_alloc ?_ _)); refine blk_far ?_ NB543_546.out _; (with_reducible repeat (first | refine blk_drewN ?_ _ | refine blk_drew ?_ | refine blk_alloc ?_ _)); refine blk_far ?_ NB543_546.out _; (with_reducible repeat (first | refine blk_drewN ?_ _ | refine blk_drew ?_ | refine blk_alloc ?_ _)); refine blk_far ?_ NB543_546.out _; (with_reducible repeat (first | refine blk_drewN ?_ _ | refine blk_drew ?_ | refine blk_alloc ?_ _)); exact BK543.out⟩, ⟨by (with_reducible repeat (first | refine blk_drewN ?_ _ | refine blk_drew ?_ | refine blk_alloc ?_ _)); refine blk_put (cs := #[.int .i64 ((rd_T46 l0_1 x13_4).f0), .int .i64 ((rd_T46 l0_1 x13_4).f1), .slice none 0 0]) ?_ 2 _ rfl; (with_reducible repeat (first | refine blk_drewN ?_ _ | refine blk_drew ?_ | refine blk_alloc ?_ _)); refine blk_put (cs := #[.int .i64 ((rd_T46 l0_1 x13_4).f0), .int .i64 0, .slice none 0 0]) ?_ 1 _ rfl; (with_reducible repeat (first | refine blk_drewN ?_ _ | refine blk_drew ?_ | refine blk_alloc ?_ _)); refine blk_put (cs := #[.int .i64 0, .int .i64 0, .slice none 0 0]) ?_ 0 _ rfl; (with_reducible repeat (first | refine blk_drewN ?_ _ | refine blk_drew ?_ | refine blk_alloc ?_ _)); exact BK546.out⟩, ⟨by repeat (first | (with_reducible first | exact HB.out | apply below_alloc | apply pw_below_drewN | apply below_drew1 | refine below_set ?_ GE523.out | refine below_set ?_ GE534.out | refine below_set ?_ GE543.out | refine below_set ?_ GE546.out) | exact HB.out)⟩⟩
                case round =>
                 clear H'
                 try clear c1
                 try clear c2
                 try clear p2
                 try clear c3
                 try clear c4
                 try clear c5
                 try clear p5
                 try clear q5
                 try clear hx5
                 try clear c6
                 try clear p6
                 try clear c7
                 try clear c8
                 try clear c9
                 try clear c11
                 try clear c12
                 try clear c12b0
                 try clear c12b1
                 try clear c27
                 try clear c34
                 try clear c37
                 try clear c37b0
                 try clear c37b1
                 try clear c39
                 try clear c43
                 try clear c45
                 try clear c45b0
                 try clear c45b1
                 try clear c47
                 try clear c52
                 try clear c53
                 try clear c54
                 try clear p54
                 try clear q54
                 try clear hx54
                 try clear c57
                 try clear c58
                 try clear c59
                 try clear c63
                 try clear p64
                 try clear c65
                 try clear c66
                 try clear c69
                 try clear c70
                 try clear c70b0
                 try clear c71
                 try clear c71b0
                 try clear c73
                 try clear c73b0
                 try clear c74
                 try clear c75
                 try clear c78
                 try clear c79
                 try clear c80
                 try clear c82
                 try clear c83
                 try clear c86
                 try clear c87
                 try clear c88
                 try clear hcz13_0
                 try clear hcz13_1
                 try clear hcz15_0
                 try clear hcz15_1
                 try clear hcz17_0
                 try clear hcz17_1
                 try clear hcz19_0
                 try clear hcz19_1
                 try clear hcz21_0
                 try clear hcz21_1
                 try clear hcz23_0
                 try clear hcz23_1
                 try clear hcz25_0
                 try clear hcz25_1
                 try clear hcz30_0
                 try clear hcz30_1
                 try clear hcz35_0
                 try clear hcz35_1
                 try clear hcz40_0
                 try clear hcz40_1
                 try clear hcz41_0
                 try clear hcz41_1
                 try clear hcz48_0
                 try clear hcz48_1
                 try clear hcz54_0
                 try clear hcz54_1
                 try clear hcz60_0
                 try clear hcz60_1
                 try clear hcz62_0
                 try clear hcz62_1
                 try clear hcz64_0
                 try clear hcz64_1
                 try clear hcz67_0
                 try clear hcz67_1
                 try clear hcz76_0
                 try clear hcz76_1
                 try clear hcz81_0
                 try clear hcz81_1
                 try clear hcz81_2
                 try clear hcz84_0
                 try clear hcz84_1
                 try clear hcz89_0
                 try clear hcz89_1
                 try clear hcz89_2
                 try clear hfz13_0
                 try clear hfz13_1
                 try clear hfz15_0
                 try clear hfz15_1
                 try clear hfz17_0
                 try clear hfz17_1
                 try clear hfz19_0
                 try clear hfz19_1
                 try clear hfz21_0
                 try clear hfz21_1
                 try clear hfz23_0
                 try clear hfz23_1
                 try clear hfz25_0
                 try clear hfz25_1
                 try clear hfz30_0
                 try clear hfz30_1
                 try clear hfz35_0
                 try clear hfz35_1
                 try clear hfz40_0
                 try clear hfz40_1
                 try clear hfz41_0
                 try clear hfz41_1
                 try clear hfz48_0
                 try clear hfz48_1
                 try clear hfz54_0
                 try clear hfz54_1
                 try clear hfz60_0
                 try clear hfz60_1
                 try clear hfz62_0
                 try clear hfz62_1
                 try clear hfz64_0
                 try clear hfz64_1
                 try clear hfz67_0
                 try clear hfz67_1
                 try clear hfz76_0
                 try clear hfz76_1
                 try clear hfz81_0
                 try clear hfz81_1
                 try clear hfz81_2
                 try clear hfz84_0
                 try clear hfz84_1
                 try clear hfz89_0
                 try clear hfz89_1
                 try clear hfz89_2
                 try clear hx545_0
                 try clear hx545_1
                 try clear hx545_2
                 try clear p2
                 try clear p545
                 try clear p6
                 try clear p64
                 try clear q545
                 obtain ⟨x15_5, x16_5, rfl, rfl, HA, HK5, HO_535000, HO_535001, HO_544000, HO_544001, BK523, BK534, BK543, BK546, HB⟩ := hrel
                 cases gk with
                 | zero => exact absurd HA.out (by simp [cohousinglaw26_ChainNext.l1])
                 | succ k5 =>
                  have H := HA.out
                  clear HA
                  simp only [cohousinglaw26_ChainNext.l1] at H
                  by_cases c90 : x16_5 < (l1.length : Int)
                  ·rw [if_pos c90] at H
                   have c90b0 : decide (x16_5 < (l1.length : Int)) = true := decide_eq_true c90
                   clear c90
                   by_cases c91 : 0 ≤ x16_5
                   ·rw [if_pos c91] at H
                    have c91b0 : decide (0 ≤ x16_5) = true := decide_eq_true c91
                    clear c91
                    by_cases c92 : ((rd_T51 l1 x16_5).f0) = ((rd_T46 l0_1 x13_4).f0)
                    ·rw [if_pos c92] at H
                     have c92b0 : (((rd_T51 l1 x16_5).f0) == ((rd_T46 l0_1 x13_4).f0)) = true := beq_iff_eq.mpr c92
                     have c92b1 : (((rd_T51 l1 x16_5).f0) != ((rd_T46 l0_1 x13_4).f0)) = false := bne_eq_false_iff_eq.mpr c92
                     clear c92
                     have H' := Aside0.mk H
                     clear H
                     have p548 : 0 ≤ (x16_5 : Int) := od_
                     have q548 : x16_5 < (l1.length : Int) := od_
                     obtain ⟨ad548, e548, hx548_0, hx548_1, hx548_2⟩ := at_T51 HR1.out x16_5 p548 q548
                     cases e548
                     replace hx548_0 := (HB.out.cell (World.block_lt_of_cell? w _ hx548_0)).trans hx548_0
                     replace hx548_1 := (HB.out.cell (World.block_lt_of_cell? w _ hx548_1)).trans hx548_1
                     replace hx548_2 := (HB.out.cell (World.block_lt_of_cell? w _ hx548_2)).trans hx548_2
                     replace p548 := eq_true p548
                     replace q548 := eq_true q548
                     have hnb93 := NB546_523.out
                     have hnc93 := NB523_546.out
                     have hnb94 := NB546_534.out
                     have hnc94 := NB534_546.out
                     have hnb95 := NB546_543.out
                     have hnc95 := NB543_546.out
                     have hcz96_0 : wr.cell? ⟨gb546, 0, none⟩ = some (.int .i64 ((rd_T46 l0_1 x13_4).f0)) := (blk_cell BK546.out 0).trans rfl
                     have hcz96_1 : wr.cell? ⟨gb546, 1, none⟩ = some (.int .i64 ((rd_T46 l0_1 x13_4).f1)) := (blk_cell BK546.out 1).trans rfl
                     have hcz96_2 : wr.cell? ⟨gb546, 2, none⟩ = some (.slice A545_2 ((rd_T46 l0_1 x13_4).f2).length c545_2) := (blk_cell BK546.out 2).trans rfl
                     have hfz96_0 := blk_frozen BK546.out 0
                     have hfz96_1 := blk_frozen BK546.out 1
                     have hfz96_2 := blk_frozen BK546.out 2
                     have p549 : 0 ≤ (x16_5 : Int) := od_
                     have q549 : x16_5 < (l1.length : Int) := od_
                     obtain ⟨ad549, e549, hx549_0, hx549_1, hx549_2⟩ := at_T51 HR1.out x16_5 p549 q549
                     obtain rfl : ad548 = ad549 := (by injection e549)
                     replace hx549_0 := (HB.out.cell (World.block_lt_of_cell? w _ hx549_0)).trans hx549_0
                     replace hx549_1 := (HB.out.cell (World.block_lt_of_cell? w _ hx549_1)).trans hx549_1
                     replace hx549_2 := (HB.out.cell (World.block_lt_of_cell? w _ hx549_2)).trans hx549_2
                     replace p549 := eq_true p549
                     replace q549 := eq_true q549
                     go_wp2
                     repeat (go_quiet (fail); try go_wp2)
                     go_roundg k5
                     case measure => have := HJ4.out; have := HJ28.out; have := HJ45.out; have := HK4.out; have := HK5.out; omega
                     case rel => exact ⟨((rd_T51 l1 x16_5).f2), (wrap64 (x16_5 + 1)), sd_, sd_, H', ⟨by have := HJ4.out; have := HJ28.out; have := HJ45.out; have := HK4.out; have := HK5.out; omega⟩, ⟨by (with_reducible repeat (first | apply Kd.R_alloc | apply Kd.R_drewN | apply Kd.R_drew)); exact HO_535000.out⟩, ⟨by (with_reducible repeat (first | apply Kd.S_alloc | apply Kd.S_drewN | apply Kd.S_drew)); exact HO_535001.out⟩, ⟨by (with_reducible repeat (first | apply Kd.R_alloc | apply Kd.R_drewN | apply Kd.R_drew)); exact HO_544000.out⟩, ⟨by (with_reducible repeat (first | apply Kd.S_alloc | apply Kd.S_drewN | apply Kd.S_drew)); exact HO_544001.out⟩, ⟨by (with_reducible repeat (first | refine blk_drewN ?_ _ | refine blk_drew ?_ | refine blk_alloc ?_ _)); exact BK523.out⟩, ⟨by (with_reducible repeat (first | refine blk_drewN ?_ _ | refine blk_drew ?_ | refine blk_alloc ?_ _)); exact BK534.out⟩, ⟨by (with_reducible repeat (first | refine blk_drewN ?_ _ | refine blk_drew ?_ | refine blk_alloc ?_ _)); exact BK543.out⟩, ⟨by (with_reducible repeat (first | refine blk_drewN ?_ _ | refine blk_drew ?_ | refine blk_alloc ?_ _)); exact BK546.out⟩, ⟨by repeat (first | (with_reducible first | exact HB.out | apply below_alloc | apply pw_below_drewN | apply below_drew1 | refine below_set ?_ GE523.out | refine below_set ?_ GE534.out | refine below_set ?_ GE543.out | refine below_set ?_ GE546.out) | exact HB.out)⟩⟩
                    ·rw [if_neg c92] at H
                     have c92b0 : (((rd_T51 l1 x16_5).f0) == ((rd_T46 l0_1 x13_4).f0)) = false := beq_eq_false_iff_ne.mpr c92
                     have c92b1 : (((rd_T51 l1 x16_5).f0) != ((rd_T46 l0_1 x13_4).f0)) = true := bne_iff_ne.mpr c92
                     have H' := Aside0.mk H
                     clear H
                     have p548 : 0 ≤ (x16_5 : Int) := od_
                     have q548 : x16_5 < (l1.length : Int) := od_
                     obtain ⟨ad548, e548, hx548_0, hx548_1, hx548_2⟩ := at_T51 HR1.out x16_5 p548 q548
                     cases e548
                     replace hx548_0 := (HB.out.cell (World.block_lt_of_cell? w _ hx548_0)).trans hx548_0
                     replace hx548_1 := (HB.out.cell (World.block_lt_of_cell? w _ hx548_1)).trans hx548_1
                     replace hx548_2 := (HB.out.cell (World.block_lt_of_cell? w _ hx548_2)).trans hx548_2
                     replace p548 := eq_true p548
                     replace q548 := eq_true q548
                     have hnb97 := NB546_523.out
                     have hnc97 := NB523_546.out
                     have hnb98 := NB546_534.out
                     have hnc98 := NB534_546.out
                     have hnb99 := NB546_543.out
                     have hnc99 := NB543_546.out
                     have hcz100_0 : wr.cell? ⟨gb546, 0, none⟩ = some (.int .i64 ((rd_T46 l0_1 x13_4).f0)) := (blk_cell BK546.out 0).trans rfl
                     have hcz100_1 : wr.cell? ⟨gb546, 1, none⟩ = some (.int .i64 ((rd_T46 l0_1 x13_4).f1)) := (blk_cell BK546.out 1).trans rfl
                     have hcz100_2 : wr.cell? ⟨gb546, 2, none⟩ = some (.slice A545_2 ((rd_T46 l0_1 x13_4).f2).length c545_2) := (blk_cell BK546.out 2).trans rfl
                     have hfz100_0 := blk_frozen BK546.out 0
                     have hfz100_1 := blk_frozen BK546.out 1
                     have hfz100_2 := blk_frozen BK546.out 2
                     go_wp2
                     repeat (go_quiet (fail); try go_wp2)
                     go_roundg k5
                     case measure => have := HJ4.out; have := HJ28.out; have := HJ45.out; have := HK4.out; have := HK5.out; omega
                     case rel => exact ⟨(x15_5), (wrap64 (x16_5 + 1)), sd_, sd_, H', ⟨by have := HJ4.out; have := HJ28.out; have := HJ45.out; have := HK4.out; have := HK5.out; omega⟩, ⟨by (with_reducible repeat (first | apply Kd.R_alloc | apply Kd.R_drewN | apply Kd.R_drew)); exact HO_535000.out⟩, ⟨by (with_reducible repeat (first | apply Kd.S_alloc | apply Kd.S_drewN | apply Kd.S_drew)); exact HO_535001.out⟩, ⟨by (with_reducible repeat (first | apply Kd.R_alloc | apply Kd.R_drewN | apply Kd.R_drew)); exact HO_544000.out⟩, ⟨by (with_reducible repeat (first | apply Kd.S_alloc | apply Kd.S_drewN | apply Kd.S_drew)); exact HO_544001.out⟩, ⟨by (with_reducible repeat (first | refine blk_drewN ?_ _ | refine blk_drew ?_ | refine blk_alloc ?_ _)); exact BK523.out⟩, ⟨by (with_reducible repeat (first | refine blk_drewN ?_ _ | refine blk_drew ?_ | refine blk_alloc ?_ _)); exact BK534.out⟩, ⟨by (with_reducible repeat (first | refine blk_drewN ?_ _ | refine blk_drew ?_ | refine blk_alloc ?_ _)); exact BK543.out⟩, ⟨by (with_reducible repeat (first | refine blk_drewN ?_ _ | refine blk_drew ?_ | refine blk_alloc ?_ _)); exact BK546.out⟩, ⟨by repeat (first | (with_reducible first | exact HB.out | apply below_alloc | apply pw_below_drewN | apply below_drew1 | refine below_set ?_ GE523.out | refine below_set ?_ GE534.out | refine below_set ?_ GE543.out | refine below_set ?_ GE546.out) | exact HB.out)⟩⟩
                   ·rw [if_neg c91] at H
                    exact absurd H (by simp)
                  ·rw [if_neg c90] at H
                   have c90b0 : decide (x16_5 < (l1.length : Int)) = false := decide_eq_false c90
                   clear c90
                   by_cases c101 : 0 ≤ x12_4
                   ·rw [if_pos c101] at H
                    have c101b0 : decide (0 ≤ x12_4) = true := decide_eq_true c101
                    clear c101
                    by_cases c102 : x12_4 < (t539.length : Int)
                    ·rw [if_pos c102] at H
                     have c102b0 : decide (x12_4 < (t539.length : Int)) = true := decide_eq_true c102
                     clear c102
                     by_cases c103 : ((rd_T46 t539 x12_4).f0) = ((rd_T46 l0_1 x13_4).f0)
                     ·rw [if_pos c103] at H
                      have c103b0 : (((rd_T46 t539 x12_4).f0) == ((rd_T46 l0_1 x13_4).f0)) = true := beq_iff_eq.mpr c103
                      have c103b1 : (((rd_T46 t539 x12_4).f0) != ((rd_T46 l0_1 x13_4).f0)) = false := bne_eq_false_iff_eq.mpr c103
                      clear c103
                      by_cases c104 : ((rd_T46 t539 x12_4).f1) = x15_5
                      ·rw [if_pos c104] at H
                       have c104b0 : (((rd_T46 t539 x12_4).f1) == x15_5) = true := beq_iff_eq.mpr c104
                       have c104b1 : (((rd_T46 t539 x12_4).f1) != x15_5) = false := bne_eq_false_iff_eq.mpr c104
                       clear c104
                       replace H := Option.bind_eq_some_iff.mp H
                       obtain ⟨t552, A1050, H⟩ := H
                       replace H : (if t552 = true then (cohousinglaw26_ChainNext.l0 k5 l1 l2 t524 (wrap64 (x12_4 + 1)) (wrap64 (x13_4 + 1)) l0_0 l0_1 t536 t539) else (some false)) = some r := H
                       have A105 := Aside0.mk A1050
                       clear A1050
                       by_cases c106 : t552 = true
                       ·subst c106
                        have H1 : (cohousinglaw26_ChainNext.l0 k5 l1 l2 t524 (wrap64 (x12_4 + 1)) (wrap64 (x13_4 + 1)) l0_0 l0_1 t536 t539) = some r := by rw [if_pos rfl] at H; exact H
                        clear H
                        have H := H1
                        clear H1
                        have H' := Aside0.mk H
                        clear H
                        have hnb107 := NB543_523.out
                        have hnc107 := NB523_543.out
                        have hnb108 := NB543_534.out
                        have hnc108 := NB534_543.out
                        have hnb109 := NB543_546.out
                        have hnc109 := NB546_543.out
                        have hcz110_0 : wr.cell? ⟨gb543, 0, none⟩ = some (.slice Ao51 t536.length co51) := (blk_cell BK543.out 0).trans rfl
                        have hcz110_1 : wr.cell? ⟨gb543, 1, none⟩ = some (.slice Ao55 t539.length co55) := (blk_cell BK543.out 1).trans rfl
                        have hfz110_0 := blk_frozen BK543.out 0
                        have hfz110_1 := blk_frozen BK543.out 1
                        have p550 : 0 ≤ (x12_4 : Int) := od_
                        have q550 : x12_4 < (t539.length : Int) := od_
                        obtain ⟨ad550, A550_2, c550_2, e550, hx550_0, hx550_1, hx550_2, hl550_2, hi550_2⟩ := at_T46 (Kd.S_reads' HO_544001.out).2.2 x12_4 p550 q550
                        cases e550
                        obtain ⟨ce550, hce550, hMe550, hcc550⟩ := Kd.S_get HO_544001.out z46 x12_4 p550 (by first | exact q550 | exact od_ | (have e_ := (Kd.S_reads' HO_544001.out).1; omega))
                        obtain ⟨ve550_2, rfl, ge550_2⟩ := k46_openM hMe550
                        have hv550_2 := hcc550 2 _ rfl
                        rw [add_field _ _ 2 (by omega)] at hv550_2
                        replace hv550_2 := Option.some.inj (hv550_2.symm.trans hx550_2)
                        rw [hv550_2] at ge550_2
                        have HL550_2 := Aside0.mk (show Kd.R (Kd.int .i64) 3 _ _ _ _ ((rd_T46 t539 x12_4).f2) from ge550_2)
                        clear hv550_2 ge550_2
                        clear hcc550 hce550
                        have HR550_2 := Aside0.mk hi550_2
                        have HC550_2 := Aside0.mk hl550_2
                        clear hi550_2 hl550_2
                        replace p550 := eq_true p550
                        replace q550 := eq_true q550
                        go_wp2_with (first | ((with_reducible refine gate_dst (N := 17) rfl ?_); (try (refine gate_guard (by rfl) ?_; dsimp only)); refine box_event ?hg (N := 17) ?hd (cs := #[.int .i64 0, .int .i64 0, .slice none 0 0]) (t := 46) ?hr ?_; (case hd => rfl); (case hg => rfl); (case hr => first | (go_simp; done) | (go_simp; rfl)); intro gb551 hg w111 hbox hb; have n0_ := Aside0.mk (Kd.R_below (rr_ HO_535000) hb); have n1_ := Aside0.mk (Kd.S_below (Kd.S_elderB (by (with_reducible repeat (first | apply Kd.S_alloc | apply Kd.S_drewN | apply Kd.S_drew)); exact HO_535001.out) gb551 (Nat.le_of_eq hg.symm)) hb); have n2_ := Aside0.mk (Kd.R_below (rr_ HO_544000) hb); have n3_ := Aside0.mk (Kd.S_below (Kd.S_elderB (by (with_reducible repeat (first | apply Kd.S_alloc | apply Kd.S_drewN | apply Kd.S_drew)); exact HO_544001.out) gb551 (Nat.le_of_eq hg.symm)) hb); have n4_ := Aside0.mk (Kd.R_below (rr_ HL550_2) hb); have n5_ := Aside0.mk (blk_below (g := gb523) (o := .cells #[.slice A0_0 l0_0.length c0_0, .slice (some ad545) l0_1.length c0_1] 25 (0, 0)) (kk_ BK523) hb); have n6_ := Aside0.mk (blk_below (g := gb534) (o := .cells #[.slice Ao33 t527.length co33, .slice Ao36 t530.length co36] 25 (0, 0)) (kk_ BK534) hb); have n7_ := Aside0.mk (blk_below (g := gb543) (o := .cells #[.slice Ao51 t536.length co51, .slice (some ad550) t539.length co55] 25 (0, 0)) (kk_ BK543) hb); have n8_ := Aside0.mk (blk_below (g := gb546) (o := .cells #[.int .i64 ((rd_T46 l0_1 x13_4).f0), .int .i64 ((rd_T46 l0_1 x13_4).f1), .slice A545_2 ((rd_T46 l0_1 x13_4).f2).length c545_2] 46 (0, 0)) (kk_ BK546) hb); have n9_ := Aside0.mk (Kd.C_below (by repeat (first | (with_reducible exact HR550_2.out) | (with_reducible refine Kd.C_alloc ?_ _) | (with_reducible refine Kd.C_drewN ?_ _) | (with_reducible refine Kd.C_drew ?_) | exact HR550_2.out)) hb); have n10_ := Aside0.mk (below_step (by repeat (first | (with_reducible first | exact HB.out | apply below_alloc | apply pw_below_drewN | apply below_drew1 | refine below_set ?_ GE523.out | refine below_set ?_ GE534.out | refine below_set ?_ GE543.out | refine below_set ?_ GE546.out) | exact HB.out)) hb); have n11_ := Aside0.mk (hbox); have n12_ := Aside0.mk ((by rw [hg]; exact (below_size (by repeat (first | (with_reducible first | exact HB.out | apply below_alloc | apply pw_below_drewN | apply below_drew1 | refine below_set ?_ GE523.out | refine below_set ?_ GE534.out | refine below_set ?_ GE543.out | refine below_set ?_ GE546.out) | exact HB.out))) : w.heap.size ≤ gb551)); have n13_ := Aside0.mk ((by rw [hg]; exact (below_size (by repeat (first | (with_reducible first | exact HB.out | apply below_alloc | apply pw_below_drewN | apply below_drew1 | refine below_set ?_ GE523.out | refine below_set ?_ GE534.out | refine below_set ?_ GE543.out | refine below_set ?_ GE546.out) | exact HB.out))) : w.heap.size ≤ gb551)); have n14_ := Aside0.mk ((by rw [hg]; exact Nat.ne_of_lt (blk_lt (g := gb523) (o := .cells #[.slice A0_0 l0_0.length c0_0, .slice (some ad545) l0_1.length c0_1] 25 (0, 0)) (kk_ BK523)) : gb523 ≠ gb551)); have n15_ := Aside0.mk ((by rw [hg]; exact Nat.ne_of_gt (blk_lt (g := gb523) (o := .cells #[.slice A0_0 l0_0.length c0_0, .slice (some ad545) l0_1.length c0_1] 25 (0, 0)) (kk_ BK523)) : gb551 ≠ gb523)); have n16_ := Aside0.mk ((by rw [hg]; exact Nat.ne_of_lt (blk_lt (g := gb534) (o := .cells #[.slice Ao33 t527.length co33, .slice Ao36 t530.length co36] 25 (0, 0)) (kk_ BK534)) : gb534 ≠ gb551)); have n17_ := Aside0.mk ((by rw [hg]; exact Nat.ne_of_gt (blk_lt (g := gb534) (o := .cells #[.slice Ao33 t527.length co33, .slice Ao36 t530.length co36] 25 (0, 0)) (kk_ BK534)) : gb551 ≠ gb534)); have n18_ := Aside0.mk ((by rw [hg]; exact Nat.ne_of_lt (blk_lt (g := gb543) (o := .cells #[.slice Ao51 t536.length co51, .slice (some ad550) t539.length co55] 25 (0, 0)) (kk_ BK543)) : gb543 ≠ gb551)); have n19_ := Aside0.mk ((by rw [hg]; exact Nat.ne_of_gt (blk_lt (g := gb543) (o := .cells #[.slice Ao51 t536.length co51, .slice (some ad550) t539.length co55] 25 (0, 0)) (kk_ BK543)) : gb551 ≠ gb543)); have n20_ := Aside0.mk ((by rw [hg]; exact Nat.ne_of_lt (blk_lt (g := gb546) (o := .cells #[.int .i64 ((rd_T46 l0_1 x13_4).f0), .int .i64 ((rd_T46 l0_1 x13_4).f1), .slice A545_2 ((rd_T46 l0_1 x13_4).f2).length c545_2] 46 (0, 0)) (kk_ BK546)) : gb546 ≠ gb551)); have n21_ := Aside0.mk ((by rw [hg]; exact Nat.ne_of_gt (blk_lt (g := gb546) (o := .cells #[.int .i64 ((rd_T46 l0_1 x13_4).f0), .int .i64 ((rd_T46 l0_1 x13_4).f1), .slice A545_2 ((rd_T46 l0_1 x13_4).f2).length c545_2] 46 (0, 0)) (kk_ BK546)) : gb551 ≠ gb546)); clear HO_535000; clear HO_535001; clear HO_544000; clear HO_544001; clear HL550_2; clear BK523; clear BK534; clear BK543; clear BK546; clear HR550_2; clear HB; have HO_535000 := n0_; have HO_535001 := n1_; have HO_544000 := n2_; have HO_544001 := n3_; have HL550_2 := n4_; have BK523 := n5_; have BK534 := n6_; have BK543 := n7_; have BK546 := n8_; have HR550_2 := n9_; have HB := n10_; have BK551 := n11_; have GW551 := n12_; have GE551 := n13_; have NB523_551 := n14_; have NB551_523 := n15_; have NB534_551 := n16_; have NB551_534 := n17_; have NB543_551 := n18_; have NB551_543 := n19_; have NB546_551 := n20_; have NB551_546 := n21_; clear n0_ n1_ n2_ n3_ n4_ n5_ n6_ n7_ n8_ n9_ n10_ n11_ n12_ n13_ n14_ n15_ n16_ n17_ n18_ n19_ n20_ n21_; clear hb hbox hg; have hnb112 := NB551_523.out; have hnc112 := NB523_551.out; have hnb113 := NB551_534.out; have hnc113 := NB534_551.out; have hnb114 := NB551_543.out; have hnc114 := NB543_551.out; have hnb115 := NB551_546.out; have hnc115 := NB546_551.out; have hcz116_0 : w111.cell? ⟨gb551, 0, none⟩ = some (.int .i64 0) := (blk_cell BK551.out 0).trans rfl; have hcz116_1 : w111.cell? ⟨gb551, 1, none⟩ = some (.int .i64 0) := (blk_cell BK551.out 1).trans rfl; have hcz116_2 : w111.cell? ⟨gb551, 2, none⟩ = some (.slice none 0 0) := (blk_cell BK551.out 2).trans rfl; have hfz116_0 := blk_frozen BK551.out 0; have hfz116_1 := blk_frozen BK551.out 1; have hfz116_2 := blk_frozen BK551.out 2; have hnb117 := NB546_523.out; have hnc117 := NB523_546.out; have hnb118 := NB546_534.out; have hnc118 := NB534_546.out; have hcz119_0 : w111.cell? ⟨gb546, 0, none⟩ = some (.int .i64 ((rd_T46 l0_1 x13_4).f0)) := (blk_cell BK546.out 0).trans rfl; have hcz119_1 : w111.cell? ⟨gb546, 1, none⟩ = some (.int .i64 ((rd_T46 l0_1 x13_4).f1)) := (blk_cell BK546.out 1).trans rfl; have hcz119_2 : w111.cell? ⟨gb546, 2, none⟩ = some (.slice A545_2 ((rd_T46 l0_1 x13_4).f2).length c545_2) := (blk_cell BK546.out 2).trans rfl; have hfz119_0 := blk_frozen BK546.out 0; have hfz119_1 := blk_frozen BK546.out 1; have hfz119_2 := blk_frozen BK546.out 2) | (go_at_call 18; (with_reducible refine (cohousingref23_SameInts.calls k5 _ _ ((rd_T46 t539 x12_4).f2) _ _ ((rd_T46 l0_1 x13_4).f2) true _ ?side1 ?side2 ?side3 ?side4 A105.out).mono ?_); (case side1 => repeat (first | exact ((Kd.R_reads' (by (with_reducible repeat (first | apply Kd.R_alloc | apply Kd.R_drewN | apply Kd.R_drew)); exact (Kd.R_mono (Kd.R_far (p := ⟨gb551, 2, none⟩) (Kd.R_far (p := ⟨gb551, 1, none⟩) (Kd.R_far (p := ⟨gb551, 0, none⟩) (Kd.R_types HL550_2.out BK551.out (by decide)) (fun _ hk => hk.2) (.int .i64 ((rd_T46 t539 x12_4).f0))) (fun _ hk => hk.2) (.int .i64 ((rd_T46 t539 x12_4).f1))) (fun _ hk => hk.2) (.slice A550_2 ((rd_T46 t539 x12_4).f2).length c550_2)) (fun _ h_ => h_.1)))).2.2) | (with_reducible refine Kd.C_alloc ?_ _) | (with_reducible refine Kd.C_drewN ?_ _) | (with_reducible refine Kd.C_drew ?_))); (case side2 => exact HC550_2.out); (case side3 => exact Kd.C_below HR545_2.out (by repeat (first | (with_reducible first | exact HB.out | apply below_alloc | apply pw_below_drewN | apply below_drew1 | refine below_set ?_ GE523.out | refine below_set ?_ GE534.out | refine below_set ?_ GE543.out | refine below_set ?_ GE546.out | refine below_set ?_ GE551.out) | exact HB.out))); (case side4 => exact HC545_2.out); rintro e w' ⟨rfl, ⟨nd, rfl⟩⟩; (try first | exact ⟨rfl, _, World.drewN_drewN _ _ _⟩ | exact ⟨rfl, _, Eq.trans (World.drewN_drewN _ _ _) (congrArg (World.drewN _) (Nat.add_assoc _ _ _))⟩)))
                        go_roundg k5
                        case measure => have := HJ4.out; have := HJ28.out; have := HJ45.out; have := HK4.out; have := HK5.out; omega
                        case rel => exact ⟨(wrap64 (x12_4 + 1)), (wrap64 (x13_4 + 1)), sd_, sd_, H', ⟨by have := HJ4.out; have := HJ28.out; have := HJ45.out; have := HK4.out; have := HK5.out; omega⟩, ⟨by (with_reducible repeat (first | apply Kd.R_alloc | apply Kd.R_drewN | apply Kd.R_drew)); exact Kd.R_mono (Kd.R_far (p := ⟨gb551, 2, none⟩) (Kd.R_far (p := ⟨gb551, 1, none⟩) (Kd.R_far (p := ⟨gb551, 0, none⟩) (Kd.R_types HO_535000.out BK551.out (by decide)) (fun _ hk => hk.2) (.int .i64 ((rd_T46 t539 x12_4).f0))) (fun _ hk => hk.2) (.int .i64 ((rd_T46 t539 x12_4).f1))) (fun _ hk => hk.2) (.slice A550_2 ((rd_T46 t539 x12_4).f2).length c550_2)) (fun _ hk => hk.1)⟩, ⟨by (with_reducible repeat (first | apply Kd.S_alloc | apply Kd.S_drewN | apply Kd.S_drew)); exact Kd.S_mono (Kd.S_far (p := ⟨gb551, 2, none⟩) (Kd.S_far (p := ⟨gb551, 1, none⟩) (Kd.S_far (p := ⟨gb551, 0, none⟩) (Kd.S_mono HO_535001.out (fun k_ hk => (⟨hk, hk.2⟩ : _ ∧ k_ ≠ gb551))) (fun _ hk => hk.2) (.int .i64 ((rd_T46 t539 x12_4).f0))) (fun _ hk => hk.2) (.int .i64 ((rd_T46 t539 x12_4).f1))) (fun _ hk => hk.2) (.slice A550_2 ((rd_T46 t539 x12_4).f2).length c550_2)) (fun _ hk => hk.1.1.1)⟩, ⟨by (with_reducible repeat (first | apply Kd.R_alloc | apply Kd.R_drewN | apply Kd.R_drew)); exact Kd.R_mono (Kd.R_far (p := ⟨gb551, 2, none⟩) (Kd.R_far (p := ⟨gb551, 1, none⟩) (Kd.R_far (p := ⟨gb551, 0, none⟩) (Kd.R_types HO_544000.out BK551.out (by decide)) (fun _ hk => hk.2) (.int .i64 ((rd_T46 t539 x12_4).f0))) (fun _ hk => hk.2) (.int .i64 ((rd_T46 t539 x12_4).f1))) (fun _ hk => hk.2) (.slice A550_2 ((rd_T46 t539 x12_4).f2).length c550_2)) (fun _ hk => hk.1)⟩, ⟨by (with_reducible repeat (first | apply Kd.S_alloc | apply Kd.S_drewN | apply Kd.S_drew)); exact Kd.S_mono (Kd.S_far (p := ⟨gb551, 2, none⟩) (Kd.S_far (p := ⟨gb551, 1, none⟩) (Kd.S_far (p := ⟨gb551, 0, none⟩) (Kd.S_mono HO_544001.out (fun k_ hk => (⟨hk, hk.2⟩ : _ ∧ k_ ≠ gb551))) (fun _ hk => hk.2) (.int .i64 ((rd_T46 t539 x12_4).f0))) (fun _ hk => hk.2) (.int .i64 ((rd_T46 t539 x12_4).f1))) (fun _ hk => hk.2) (.slice A550_2 ((rd_T46 t539 x12_4).f2).length c550_2)) (fun _ hk => hk.1.1.1)⟩, ⟨by (with_reducible repeat (first | refine blk_drewN ?_ _ | refine blk_drew ?_ | refine blk_alloc ?_ _)); refine blk_far ?_ NB523_551.out _; (with_reducible repeat (first | refine blk_drewN ?_ _ | refine blk_drew ?_ | refine blk_alloc ?_ _)); refine blk_far ?_ NB523_551.out _; (with_reducible repeat (first | refine blk_drewN ?_ _ | refine blk_drew ?_ | refine blk_alloc ?_ _)); refine blk_far ?_ NB523_551.out _; (with_reducible repeat (first | refine blk_drewN ?_ _ | refine blk_drew ?_ | refine blk_alloc ?_ _)); exact BK523.out⟩, ⟨by (with_reducible repeat (first | refine blk_drewN ?_ _ | refine blk_drew ?_ | refine blk_alloc ?_ _)); refine blk_far ?_ NB534_551.out _; (with_reducible repeat (first | refine blk_drewN ?_ _ | refine blk_drew ?_ | refine blk_alloc ?_ _)); refine blk_far ?_ NB534_551.out _; (with_reducible repeat (first | refine blk_drewN ?_ _ | refine blk_drew ?_ | refine blk_alloc ?_ _)); refine blk_far ?_ NB534_551.out _; (with_reducible repeat (first | refine blk_drewN ?_ _ | refine blk_drew ?_ | refine blk_alloc ?_ _)); exact BK534.out⟩, ⟨by (with_reducible repeat (first | refine blk_drewN ?_ _ | refine blk_drew ?_ | refine blk_alloc ?_ _)); refine blk_far ?_ NB543_551.out _; (with_reducible repeat (first | refine blk_drewN ?_ _ | refine blk_drew ?_ | refine blk_alloc ?_ _)); refine blk_far ?_ NB543_551.out _; (with_reducible repeat (first | refine blk_drewN ?_ _ | refine blk_drew ?_ | refine blk_alloc ?_ _)); refine blk_far ?_ NB543_551.out _; (with_reducible repeat (first | refine blk_drewN ?_ _ | refine blk_drew ?_ | refine blk_alloc ?_ _)); exact BK543.out⟩, ⟨by repeat (first | (with_reducible first | exact HB.out | apply below_alloc | apply pw_below_drewN | apply below_drew1 | refine below_set ?_ GE523.out | refine below_set ?_ GE534.out | refine below_set ?_ GE543.out | refine below_set ?_ GE546.out | refine below_set ?_ GE551.out) | exact HB.out)⟩⟩
                       ·replace c106 := Bool.eq_false_iff.mpr c106
                        subst c106
                        have H1 : (some false) = some r := by rw [if_neg (show ¬ (false = true) by decide)] at H; exact H
                        clear H
                        have H := H1
                        clear H1
                        obtain rfl := Option.some.inj H
                        have hnb120 := NB543_523.out
                        have hnc120 := NB523_543.out
                        have hnb121 := NB543_534.out
                        have hnc121 := NB534_543.out
                        have hnb122 := NB543_546.out
                        have hnc122 := NB546_543.out
                        have hcz123_0 : wr.cell? ⟨gb543, 0, none⟩ = some (.slice Ao51 t536.length co51) := (blk_cell BK543.out 0).trans rfl
                        have hcz123_1 : wr.cell? ⟨gb543, 1, none⟩ = some (.slice Ao55 t539.length co55) := (blk_cell BK543.out 1).trans rfl
                        have hfz123_0 := blk_frozen BK543.out 0
                        have hfz123_1 := blk_frozen BK543.out 1
                        have p550 : 0 ≤ (x12_4 : Int) := od_
                        have q550 : x12_4 < (t539.length : Int) := od_
                        obtain ⟨ad550, A550_2, c550_2, e550, hx550_0, hx550_1, hx550_2, hl550_2, hi550_2⟩ := at_T46 (Kd.S_reads' HO_544001.out).2.2 x12_4 p550 q550
                        cases e550
                        obtain ⟨ce550, hce550, hMe550, hcc550⟩ := Kd.S_get HO_544001.out z46 x12_4 p550 (by first | exact q550 | exact od_ | (have e_ := (Kd.S_reads' HO_544001.out).1; omega))
                        obtain ⟨ve550_2, rfl, ge550_2⟩ := k46_openM hMe550
                        have hv550_2 := hcc550 2 _ rfl
                        rw [add_field _ _ 2 (by omega)] at hv550_2
                        replace hv550_2 := Option.some.inj (hv550_2.symm.trans hx550_2)
                        rw [hv550_2] at ge550_2
                        have HL550_2 := Aside0.mk (show Kd.R (Kd.int .i64) 3 _ _ _ _ ((rd_T46 t539 x12_4).f2) from ge550_2)
                        clear hv550_2 ge550_2
                        clear hcc550 hce550
                        have HR550_2 := Aside0.mk hi550_2
                        have HC550_2 := Aside0.mk hl550_2
                        clear hi550_2 hl550_2
                        replace p550 := eq_true p550
                        replace q550 := eq_true q550
                        go_wp2_with (first | ((with_reducible refine gate_dst (N := 17) rfl ?_); (try (refine gate_guard (by rfl) ?_; dsimp only)); refine box_event ?hg (N := 17) ?hd (cs := #[.int .i64 0, .int .i64 0, .slice none 0 0]) (t := 46) ?hr ?_; (case hd => rfl); (case hg => rfl); (case hr => first | (go_simp; done) | (go_simp; rfl)); intro gb551 hg w124 hbox hb; have n0_ := Aside0.mk (Kd.R_below (rr_ HO_535000) hb); have n1_ := Aside0.mk (Kd.S_below (Kd.S_elderB (by (with_reducible repeat (first | apply Kd.S_alloc | apply Kd.S_drewN | apply Kd.S_drew)); exact HO_535001.out) gb551 (Nat.le_of_eq hg.symm)) hb); have n2_ := Aside0.mk (Kd.R_below (rr_ HO_544000) hb); have n3_ := Aside0.mk (Kd.S_below (Kd.S_elderB (by (with_reducible repeat (first | apply Kd.S_alloc | apply Kd.S_drewN | apply Kd.S_drew)); exact HO_544001.out) gb551 (Nat.le_of_eq hg.symm)) hb); have n4_ := Aside0.mk (Kd.R_below (rr_ HL550_2) hb); have n5_ := Aside0.mk (blk_below (g := gb523) (o := .cells #[.slice A0_0 l0_0.length c0_0, .slice (some ad545) l0_1.length c0_1] 25 (0, 0)) (kk_ BK523) hb); have n6_ := Aside0.mk (blk_below (g := gb534) (o := .cells #[.slice Ao33 t527.length co33, .slice Ao36 t530.length co36] 25 (0, 0)) (kk_ BK534) hb); have n7_ := Aside0.mk (blk_below (g := gb543) (o := .cells #[.slice Ao51 t536.length co51, .slice (some ad550) t539.length co55] 25 (0, 0)) (kk_ BK543) hb); have n8_ := Aside0.mk (blk_below (g := gb546) (o := .cells #[.int .i64 ((rd_T46 l0_1 x13_4).f0), .int .i64 ((rd_T46 l0_1 x13_4).f1), .slice A545_2 ((rd_T46 l0_1 x13_4).f2).length c545_2] 46 (0, 0)) (kk_ BK546) hb); have n9_ := Aside0.mk (Kd.C_below (by repeat (first | (with_reducible exact HR550_2.out) | (with_reducible refine Kd.C_alloc ?_ _) | (with_reducible refine Kd.C_drewN ?_ _) | (with_reducible refine Kd.C_drew ?_) | exact HR550_2.out)) hb); have n10_ := Aside0.mk (below_step (by repeat (first | (with_reducible first | exact HB.out | apply below_alloc | apply pw_below_drewN | apply below_drew1 | refine below_set ?_ GE523.out | refine below_set ?_ GE534.out | refine below_set ?_ GE543.out | refine below_set ?_ GE546.out) | exact HB.out)) hb); have n11_ := Aside0.mk (hbox); have n12_ := Aside0.mk ((by rw [hg]; exact (below_size (by repeat (first | (with_reducible first | exact HB.out | apply below_alloc | apply pw_below_drewN | apply below_drew1 | refine below_set ?_ GE523.out | refine below_set ?_ GE534.out | refine below_set ?_ GE543.out | refine below_set ?_ GE546.out) | exact HB.out))) : w.heap.size ≤ gb551)); have n13_ := Aside0.mk ((by rw [hg]; exact (below_size (by repeat (first | (with_reducible first | exact HB.out | apply below_alloc | apply pw_below_drewN | apply below_drew1 | refine below_set ?_ GE523.out | refine below_set ?_ GE534.out | refine below_set ?_ GE543.out | refine below_set ?_ GE546.out) | exact HB.out))) : w.heap.size ≤ gb551)); have n14_ := Aside0.mk ((by rw [hg]; exact Nat.ne_of_lt (blk_lt (g := gb523) (o := .cells #[.slice A0_0 l0_0.length c0_0, .slice (some ad545) l0_1.length c0_1] 25 (0, 0)) (kk_ BK523)) : gb523 ≠ gb551)); have n15_ := Aside0.mk ((by rw [hg]; exact Nat.ne_of_gt (blk_lt (g := gb523) (o := .cells #[.slice A0_0 l0_0.length c0_0, .slice (some ad545) l0_1.length c0_1] 25 (0, 0)) (kk_ BK523)) : gb551 ≠ gb523)); have n16_ := Aside0.mk ((by rw [hg]; exact Nat.ne_of_lt (blk_lt (g := gb534) (o := .cells #[.slice Ao33 t527.length co33, .slice Ao36 t530.length co36] 25 (0, 0)) (kk_ BK534)) : gb534 ≠ gb551)); have n17_ := Aside0.mk ((by rw [hg]; exact Nat.ne_of_gt (blk_lt (g := gb534) (o := .cells #[.slice Ao33 t527.length co33, .slice Ao36 t530.length co36] 25 (0, 0)) (kk_ BK534)) : gb551 ≠ gb534)); have n18_ := Aside0.mk ((by rw [hg]; exact Nat.ne_of_lt (blk_lt (g := gb543) (o := .cells #[.slice Ao51 t536.length co51, .slice (some ad550) t539.length co55] 25 (0, 0)) (kk_ BK543)) : gb543 ≠ gb551)); have n19_ := Aside0.mk ((by rw [hg]; exact Nat.ne_of_gt (blk_lt (g := gb543) (o := .cells #[.slice Ao51 t536.length co51, .slice (some ad550) t539.length co55] 25 (0, 0)) (kk_ BK543)) : gb551 ≠ gb543)); have n20_ := Aside0.mk ((by rw [hg]; exact Nat.ne_of_lt (blk_lt (g := gb546) (o := .cells #[.int .i64 ((rd_T46 l0_1 x13_4).f0), .int .i64 ((rd_T46 l0_1 x13_4).f1), .slice A545_2 ((rd_T46 l0_1 x13_4).f2).length c545_2] 46 (0, 0)) (kk_ BK546)) : gb546 ≠ gb551)); have n21_ := Aside0.mk ((by rw [hg]; exact Nat.ne_of_gt (blk_lt (g := gb546) (o := .cells #[.int .i64 ((rd_T46 l0_1 x13_4).f0), .int .i64 ((rd_T46 l0_1 x13_4).f1), .slice A545_2 ((rd_T46 l0_1 x13_4).f2).length c545_2] 46 (0, 0)) (kk_ BK546)) : gb551 ≠ gb546)); clear HO_535000; clear HO_535001; clear HO_544000; clear HO_544001; clear HL550_2; clear BK523; clear BK534; clear BK543; clear BK546; clear HR550_2; clear HB; have HO_535000 := n0_; have HO_535001 := n1_; have HO_544000 := n2_; have HO_544001 := n3_; have HL550_2 := n4_; have BK523 := n5_; have BK534 := n6_; have BK543 := n7_; have BK546 := n8_; have HR550_2 := n9_; have HB := n10_; have BK551 := n11_; have GW551 := n12_; have GE551 := n13_; have NB523_551 := n14_; have NB551_523 := n15_; have NB534_551 := n16_; have NB551_534 := n17_; have NB543_551 := n18_; have NB551_543 := n19_; have NB546_551 := n20_; have NB551_546 := n21_; clear n0_ n1_ n2_ n3_ n4_ n5_ n6_ n7_ n8_ n9_ n10_ n11_ n12_ n13_ n14_ n15_ n16_ n17_ n18_ n19_ n20_ n21_; clear hb hbox hg; have hnb125 := NB551_523.out; have hnc125 := NB523_551.out; have hnb126 := NB551_534.out; have hnc126 := NB534_551.out; have hnb127 := NB551_543.out; have hnc127 := NB543_551.out; have hnb128 := NB551_546.out; have hnc128 := NB546_551.out; have hcz129_0 : w124.cell? ⟨gb551, 0, none⟩ = some (.int .i64 0) := (blk_cell BK551.out 0).trans rfl; have hcz129_1 : w124.cell? ⟨gb551, 1, none⟩ = some (.int .i64 0) := (blk_cell BK551.out 1).trans rfl; have hcz129_2 : w124.cell? ⟨gb551, 2, none⟩ = some (.slice none 0 0) := (blk_cell BK551.out 2).trans rfl; have hfz129_0 := blk_frozen BK551.out 0; have hfz129_1 := blk_frozen BK551.out 1; have hfz129_2 := blk_frozen BK551.out 2; have hnb130 := NB546_523.out; have hnc130 := NB523_546.out; have hnb131 := NB546_534.out; have hnc131 := NB534_546.out; have hcz132_0 : w124.cell? ⟨gb546, 0, none⟩ = some (.int .i64 ((rd_T46 l0_1 x13_4).f0)) := (blk_cell BK546.out 0).trans rfl; have hcz132_1 : w124.cell? ⟨gb546, 1, none⟩ = some (.int .i64 ((rd_T46 l0_1 x13_4).f1)) := (blk_cell BK546.out 1).trans rfl; have hcz132_2 : w124.cell? ⟨gb546, 2, none⟩ = some (.slice A545_2 ((rd_T46 l0_1 x13_4).f2).length c545_2) := (blk_cell BK546.out 2).trans rfl; have hfz132_0 := blk_frozen BK546.out 0; have hfz132_1 := blk_frozen BK546.out 1; have hfz132_2 := blk_frozen BK546.out 2) | (go_at_call 18; (with_reducible refine (cohousingref23_SameInts.calls k5 _ _ ((rd_T46 t539 x12_4).f2) _ _ ((rd_T46 l0_1 x13_4).f2) false _ ?side1 ?side2 ?side3 ?side4 A105.out).mono ?_); (case side1 => repeat (first | exact ((Kd.R_reads' (by (with_reducible repeat (first | apply Kd.R_alloc | apply Kd.R_drewN | apply Kd.R_drew)); exact (Kd.R_mono (Kd.R_far (p := ⟨gb551, 2, none⟩) (Kd.R_far (p := ⟨gb551, 1, none⟩) (Kd.R_far (p := ⟨gb551, 0, none⟩) (Kd.R_types HL550_2.out BK551.out (by decide)) (fun _ hk => hk.2) (.int .i64 ((rd_T46 t539 x12_4).f0))) (fun _ hk => hk.2) (.int .i64 ((rd_T46 t539 x12_4).f1))) (fun _ hk => hk.2) (.slice A550_2 ((rd_T46 t539 x12_4).f2).length c550_2)) (fun _ h_ => h_.1)))).2.2) | (with_reducible refine Kd.C_alloc ?_ _) | (with_reducible refine Kd.C_drewN ?_ _) | (with_reducible refine Kd.C_drew ?_))); (case side2 => exact HC550_2.out); (case side3 => exact Kd.C_below HR545_2.out (by repeat (first | (with_reducible first | exact HB.out | apply below_alloc | apply pw_below_drewN | apply below_drew1 | refine below_set ?_ GE523.out | refine below_set ?_ GE534.out | refine below_set ?_ GE543.out | refine below_set ?_ GE546.out | refine below_set ?_ GE551.out) | exact HB.out))); (case side4 => exact HC545_2.out); rintro e w' ⟨rfl, ⟨nd, rfl⟩⟩; (try first | exact ⟨rfl, _, World.drewN_drewN _ _ _⟩ | exact ⟨rfl, _, Eq.trans (World.drewN_drewN _ _ _) (congrArg (World.drewN _) (Nat.add_assoc _ _ _))⟩)))
                        go_ret
                        exact ⟨ew_, by repeat (first | (with_reducible first | exact HB.out | apply below_alloc | apply pw_below_drewN | apply below_drew1 | refine below_set ?_ GE523.out | refine below_set ?_ GE534.out | refine below_set ?_ GE543.out | refine below_set ?_ GE546.out | refine below_set ?_ GE551.out) | exact HB.out)⟩
                      ·rw [if_neg c104] at H
                       have c104b0 : (((rd_T46 t539 x12_4).f1) == x15_5) = false := beq_eq_false_iff_ne.mpr c104
                       have c104b1 : (((rd_T46 t539 x12_4).f1) != x15_5) = true := bne_iff_ne.mpr c104
                       obtain rfl := Option.some.inj H
                       have hnb133 := NB543_523.out
                       have hnc133 := NB523_543.out
                       have hnb134 := NB543_534.out
                       have hnc134 := NB534_543.out
                       have hnb135 := NB543_546.out
                       have hnc135 := NB546_543.out
                       have hcz136_0 : wr.cell? ⟨gb543, 0, none⟩ = some (.slice Ao51 t536.length co51) := (blk_cell BK543.out 0).trans rfl
                       have hcz136_1 : wr.cell? ⟨gb543, 1, none⟩ = some (.slice Ao55 t539.length co55) := (blk_cell BK543.out 1).trans rfl
                       have hfz136_0 := blk_frozen BK543.out 0
                       have hfz136_1 := blk_frozen BK543.out 1
                       have p550 : 0 ≤ (x12_4 : Int) := od_
                       have q550 : x12_4 < (t539.length : Int) := od_
                       obtain ⟨ad550, A550_2, c550_2, e550, hx550_0, hx550_1, hx550_2, hl550_2, hi550_2⟩ := at_T46 (Kd.S_reads' HO_544001.out).2.2 x12_4 p550 q550
                       cases e550
                       obtain ⟨ce550, hce550, hMe550, hcc550⟩ := Kd.S_get HO_544001.out z46 x12_4 p550 (by first | exact q550 | exact od_ | (have e_ := (Kd.S_reads' HO_544001.out).1; omega))
                       obtain ⟨ve550_2, rfl, ge550_2⟩ := k46_openM hMe550
                       have hv550_2 := hcc550 2 _ rfl
                       rw [add_field _ _ 2 (by omega)] at hv550_2
                       replace hv550_2 := Option.some.inj (hv550_2.symm.trans hx550_2)
                       rw [hv550_2] at ge550_2
                       have HL550_2 := Aside0.mk (show Kd.R (Kd.int .i64) 3 _ _ _ _ ((rd_T46 t539 x12_4).f2) from ge550_2)
                       clear hv550_2 ge550_2
                       clear hcc550 hce550
                       have HR550_2 := Aside0.mk hi550_2
                       have HC550_2 := Aside0.mk hl550_2
                       clear hi550_2 hl550_2
                       replace p550 := eq_true p550
                       replace q550 := eq_true q550
                       go_wp2_with (first | ((with_reducible refine gate_dst (N := 17) rfl ?_); (try (refine gate_guard (by rfl) ?_; dsimp only)); refine box_event ?hg (N := 17) ?hd (cs := #[.int .i64 0, .int .i64 0, .slice none 0 0]) (t := 46) ?hr ?_; (case hd => rfl); (case hg => rfl); (case hr => first | (go_simp; done) | (go_simp; rfl)); intro gb551 hg w137 hbox hb; have n0_ := Aside0.mk (Kd.R_below (rr_ HO_535000) hb); have n1_ := Aside0.mk (Kd.S_below (Kd.S_elderB (by (with_reducible repeat (first | apply Kd.S_alloc | apply Kd.S_drewN | apply Kd.S_drew)); exact HO_535001.out) gb551 (Nat.le_of_eq hg.symm)) hb); have n2_ := Aside0.mk (Kd.R_below (rr_ HO_544000) hb); have n3_ := Aside0.mk (Kd.S_below (Kd.S_elderB (by (with_reducible repeat (first | apply Kd.S_alloc | apply Kd.S_drewN | apply Kd.S_drew)); exact HO_544001.out) gb551 (Nat.le_of_eq hg.symm)) hb); have n4_ := Aside0.mk (Kd.R_below (rr_ HL550_2) hb); have n5_ := Aside0.mk (blk_below (g := gb523) (o := .cells #[.slice A0_0 l0_0.length c0_0, .slice (some ad545) l0_1.length c0_1] 25 (0, 0)) (kk_ BK523) hb); have n6_ := Aside0.mk (blk_below (g := gb534) (o := .cells #[.slice Ao33 t527.length co33, .slice Ao36 t530.length co36] 25 (0, 0)) (kk_ BK534) hb); have n7_ := Aside0.mk (blk_below (g := gb543) (o := .cells #[.slice Ao51 t536.length co51, .slice (some ad550) t539.length co55] 25 (0, 0)) (kk_ BK543) hb); have n8_ := Aside0.mk (blk_below (g := gb546) (o := .cells #[.int .i64 ((rd_T46 l0_1 x13_4).f0), .int .i64 ((rd_T46 l0_1 x13_4).f1), .slice A545_2 ((rd_T46 l0_1 x13_4).f2).length c545_2] 46 (0, 0)) (kk_ BK546) hb); have n9_ := Aside0.mk (Kd.C_below (by repeat (first | (with_reducible exact HR550_2.out) | (with_reducible refine Kd.C_alloc ?_ _) | (with_reducible refine Kd.C_drewN ?_ _) | (with_reducible refine Kd.C_drew ?_) | exact HR550_2.out)) hb); have n10_ := Aside0.mk (below_step (by repeat (first | (with_reducible first | exact HB.out | apply below_alloc | apply pw_below_drewN | apply below_drew1 | refine below_set ?_ GE523.out | refine below_set ?_ GE534.out | refine below_set ?_ GE543.out | refine below_set ?_ GE546.out) | exact HB.out)) hb); have n11_ := Aside0.mk (hbox); have n12_ := Aside0.mk ((by rw [hg]; exact (below_size (by repeat (first | (with_reducible first | exact HB.out | apply below_alloc | apply pw_below_drewN | apply below_drew1 | refine below_set ?_ GE523.out | refine below_set ?_ GE534.out | refine below_set ?_ GE543.out | refine below_set ?_ GE546.out) | exact HB.out))) : w.heap.size ≤ gb551)); have n13_ := Aside0.mk ((by rw [hg]; exact (below_size (by repeat (first | (with_reducible first | exact HB.out | apply below_alloc | apply pw_below_drewN | apply below_drew1 | refine below_set ?_ GE523.out | refine below_set ?_ GE534.out | refine below_set ?_ GE543.out | refine below_set ?_ GE546.out) | exact HB.out))) : w.heap.size ≤ gb551)); have n14_ := Aside0.mk ((by rw [hg]; exact Nat.ne_of_lt (blk_lt (g := gb523) (o := .cells #[.slice A0_0 l0_0.length c0_0, .slice (some ad545) l0_1.length c0_1] 25 (0, 0)) (kk_ BK523)) : gb523 ≠ gb551)); have n15_ := Aside0.mk ((by rw [hg]; exact Nat.ne_of_gt (blk_lt (g := gb523) (o := .cells #[.slice A0_0 l0_0.length c0_0, .slice (some ad545) l0_1.length c0_1] 25 (0, 0)) (kk_ BK523)) : gb551 ≠ gb523)); have n16_ := Aside0.mk ((by rw [hg]; exact Nat.ne_of_lt (blk_lt (g := gb534) (o := .cells #[.slice Ao33 t527.length co33, .slice Ao36 t530.length co36] 25 (0, 0)) (kk_ BK534)) : gb534 ≠ gb551)); have n17_ := Aside0.mk ((by rw [hg]; exact Nat.ne_of_gt (blk_lt (g := gb534) (o := .cells #[.slice Ao33 t527.length co33, .slice Ao36 t530.length co36] 25 (0, 0)) (kk_ BK534)) : gb551 ≠ gb534)); have n18_ := Aside0.mk ((by rw [hg]; exact Nat.ne_of_lt (blk_lt (g := gb543) (o := .cells #[.slice Ao51 t536.length co51, .slice (some ad550) t539.length co55] 25 (0, 0)) (kk_ BK543)) : gb543 ≠ gb551)); have n19_ := Aside0.mk ((by rw [hg]; exact Nat.ne_of_gt (blk_lt (g := gb543) (o := .cells #[.slice Ao51 t536.length co51, .slice (some ad550) t539.length co55] 25 (0, 0)) (kk_ BK543)) : gb551 ≠ gb543)); have n20_ := Aside0.mk ((by rw [hg]; exact Nat.ne_of_lt (blk_lt (g := gb546) (o := .cells #[.int .i64 ((rd_T46 l0_1 x13_4).f0), .int .i64 ((rd_T46 l0_1 x13_4).f1), .slice A545_2 ((rd_T46 l0_1 x13_4).f2).length c545_2] 46 (0, 0)) (kk_ BK546)) : gb546 ≠ gb551)); have n21_ := Aside0.mk ((by rw [hg]; exact Nat.ne_of_gt (blk_lt (g := gb546) (o := .cells #[.int .i64 ((rd_T46 l0_1 x13_4).f0), .int .i64 ((rd_T46 l0_1 x13_4).f1), .slice A545_2 ((rd_T46 l0_1 x13_4).f2).length c545_2] 46 (0, 0)) (kk_ BK546)) : gb551 ≠ gb546)); clear HO_535000; clear HO_535001; clear HO_544000; clear HO_544001; clear HL550_2; clear BK523; clear BK534; clear BK543; clear BK546; clear HR550_2; clear HB; have HO_535000 := n0_; have HO_535001 := n1_; have HO_544000 := n2_; have HO_544001 := n3_; have HL550_2 := n4_; have BK523 := n5_; have BK534 := n6_; have BK543 := n7_; have BK546 := n8_; have HR550_2 := n9_; have HB := n10_; have BK551 := n11_; have GW551 := n12_; have GE551 := n13_; have NB523_551 := n14_; have NB551_523 := n15_; have NB534_551 := n16_; have NB551_534 := n17_; have NB543_551 := n18_; have NB551_543 := n19_; have NB546_551 := n20_; have NB551_546 := n21_; clear n0_ n1_ n2_ n3_ n4_ n5_ n6_ n7_ n8_ n9_ n10_ n11_ n12_ n13_ n14_ n15_ n16_ n17_ n18_ n19_ n20_ n21_; clear hb hbox hg; have hnb138 := NB551_523.out; have hnc138 := NB523_551.out; have hnb139 := NB551_534.out; have hnc139 := NB534_551.out; have hnb140 := NB551_543.out; have hnc140 := NB543_551.out; have hnb141 := NB551_546.out; have hnc141 := NB546_551.out; have hcz142_0 : w137.cell? ⟨gb551, 0, none⟩ = some (.int .i64 0) := (blk_cell BK551.out 0).trans rfl; have hcz142_1 : w137.cell? ⟨gb551, 1, none⟩ = some (.int .i64 0) := (blk_cell BK551.out 1).trans rfl; have hcz142_2 : w137.cell? ⟨gb551, 2, none⟩ = some (.slice none 0 0) := (blk_cell BK551.out 2).trans rfl; have hfz142_0 := blk_frozen BK551.out 0; have hfz142_1 := blk_frozen BK551.out 1; have hfz142_2 := blk_frozen BK551.out 2; have hnb143 := NB546_523.out; have hnc143 := NB523_546.out; have hnb144 := NB546_534.out; have hnc144 := NB534_546.out; have hcz145_0 : w137.cell? ⟨gb546, 0, none⟩ = some (.int .i64 ((rd_T46 l0_1 x13_4).f0)) := (blk_cell BK546.out 0).trans rfl; have hcz145_1 : w137.cell? ⟨gb546, 1, none⟩ = some (.int .i64 ((rd_T46 l0_1 x13_4).f1)) := (blk_cell BK546.out 1).trans rfl; have hcz145_2 : w137.cell? ⟨gb546, 2, none⟩ = some (.slice A545_2 ((rd_T46 l0_1 x13_4).f2).length c545_2) := (blk_cell BK546.out 2).trans rfl; have hfz145_0 := blk_frozen BK546.out 0; have hfz145_1 := blk_frozen BK546.out 1; have hfz145_2 := blk_frozen BK546.out 2))
                       go_ret
                       exact ⟨ew_, by repeat (first | (with_reducible first | exact HB.out | apply below_alloc | apply pw_below_drewN | apply below_drew1 | refine below_set ?_ GE523.out | refine below_set ?_ GE534.out | refine below_set ?_ GE543.out | refine below_set ?_ GE546.out | refine below_set ?_ GE551.out) | exact HB.out)⟩
                     ·rw [if_neg c103] at H
                      have c103b0 : (((rd_T46 t539 x12_4).f0) == ((rd_T46 l0_1 x13_4).f0)) = false := beq_eq_false_iff_ne.mpr c103
                      have c103b1 : (((rd_T46 t539 x12_4).f0) != ((rd_T46 l0_1 x13_4).f0)) = true := bne_iff_ne.mpr c103
                      obtain rfl := Option.some.inj H
                      have hnb146 := NB543_523.out
                      have hnc146 := NB523_543.out
                      have hnb147 := NB543_534.out
                      have hnc147 := NB534_543.out
                      have hnb148 := NB543_546.out
                      have hnc148 := NB546_543.out
                      have hcz149_0 : wr.cell? ⟨gb543, 0, none⟩ = some (.slice Ao51 t536.length co51) := (blk_cell BK543.out 0).trans rfl
                      have hcz149_1 : wr.cell? ⟨gb543, 1, none⟩ = some (.slice Ao55 t539.length co55) := (blk_cell BK543.out 1).trans rfl
                      have hfz149_0 := blk_frozen BK543.out 0
                      have hfz149_1 := blk_frozen BK543.out 1
                      have p550 : 0 ≤ (x12_4 : Int) := od_
                      have q550 : x12_4 < (t539.length : Int) := od_
                      obtain ⟨ad550, A550_2, c550_2, e550, hx550_0, hx550_1, hx550_2, hl550_2, hi550_2⟩ := at_T46 (Kd.S_reads' HO_544001.out).2.2 x12_4 p550 q550
                      cases e550
                      obtain ⟨ce550, hce550, hMe550, hcc550⟩ := Kd.S_get HO_544001.out z46 x12_4 p550 (by first | exact q550 | exact od_ | (have e_ := (Kd.S_reads' HO_544001.out).1; omega))
                      obtain ⟨ve550_2, rfl, ge550_2⟩ := k46_openM hMe550
                      have hv550_2 := hcc550 2 _ rfl
                      rw [add_field _ _ 2 (by omega)] at hv550_2
                      replace hv550_2 := Option.some.inj (hv550_2.symm.trans hx550_2)
                      rw [hv550_2] at ge550_2
                      have HL550_2 := Aside0.mk (show Kd.R (Kd.int .i64) 3 _ _ _ _ ((rd_T46 t539 x12_4).f2) from ge550_2)
                      clear hv550_2 ge550_2
                      clear hcc550 hce550
                      have HR550_2 := Aside0.mk hi550_2
                      have HC550_2 := Aside0.mk hl550_2
                      clear hi550_2 hl550_2
                      replace p550 := eq_true p550
                      replace q550 := eq_true q550
                      go_wp2_with (first | ((with_reducible refine gate_dst (N := 17) rfl ?_); (try (refine gate_guard (by rfl) ?_; dsimp only)); refine box_event ?hg (N := 17) ?hd (cs := #[.int .i64 0, .int .i64 0, .slice none 0 0]) (t := 46) ?hr ?_; (case hd => rfl); (case hg => rfl); (case hr => first | (go_simp; done) | (go_simp; rfl)); intro gb551 hg w150 hbox hb; have n0_ := Aside0.mk (Kd.R_below (rr_ HO_535000) hb); have n1_ := Aside0.mk (Kd.S_below (Kd.S_elderB (by (with_reducible repeat (first | apply Kd.S_alloc | apply Kd.S_drewN | apply Kd.S_drew)); exact HO_535001.out) gb551 (Nat.le_of_eq hg.symm)) hb); have n2_ := Aside0.mk (Kd.R_below (rr_ HO_544000) hb); have n3_ := Aside0.mk (Kd.S_below (Kd.S_elderB (by (with_reducible repeat (first | apply Kd.S_alloc | apply Kd.S_drewN | apply Kd.S_drew)); exact HO_544001.out) gb551 (Nat.le_of_eq hg.symm)) hb); have n4_ := Aside0.mk (Kd.R_below (rr_ HL550_2) hb); have n5_ := Aside0.mk (blk_below (g := gb523) (o := .cells #[.slice A0_0 l0_0.length c0_0, .slice (some ad545) l0_1.length c0_1] 25 (0, 0)) (kk_ BK523) hb); have n6_ := Aside0.mk (blk_below (g := gb534) (o := .cells #[.slice Ao33 t527.length co33, .slice Ao36 t530.length co36] 25 (0, 0)) (kk_ BK534) hb); have n7_ := Aside0.mk (blk_below (g := gb543) (o := .cells #[.slice Ao51 t536.length co51, .slice (some ad550) t539.length co55] 25 (0, 0)) (kk_ BK543) hb); have n8_ := Aside0.mk (blk_below (g := gb546) (o := .cells #[.int .i64 ((rd_T46 l0_1 x13_4).f0), .int .i64 ((rd_T46 l0_1 x13_4).f1), .slice A545_2 ((rd_T46 l0_1 x13_4).f2).length c545_2] 46 (0, 0)) (kk_ BK546) hb); have n9_ := Aside0.mk (Kd.C_below (by repeat (first | (with_reducible exact HR550_2.out) | (with_reducible refine Kd.C_alloc ?_ _) | (with_reducible refine Kd.C_drewN ?_ _) | (with_reducible refine Kd.C_drew ?_) | exact HR550_2.out)) hb); have n10_ := Aside0.mk (below_step (by repeat (first | (with_reducible first | exact HB.out | apply below_alloc | apply pw_below_drewN | apply below_drew1 | refine below_set ?_ GE523.out | refine below_set ?_ GE534.out | refine below_set ?_ GE543.out | refine below_set ?_ GE546.out) | exact HB.out)) hb); have n11_ := Aside0.mk (hbox); have n12_ := Aside0.mk ((by rw [hg]; exact (below_size (by repeat (first | (with_reducible first | exact HB.out | apply below_alloc | apply pw_below_drewN | apply below_drew1 | refine below_set ?_ GE523.out | refine below_set ?_ GE534.out | refine below_set ?_ GE543.out | refine below_set ?_ GE546.out) | exact HB.out))) : w.heap.size ≤ gb551)); have n13_ := Aside0.mk ((by rw [hg]; exact (below_size (by repeat (first | (with_reducible first | exact HB.out | apply below_alloc | apply pw_below_drewN | apply below_drew1 | refine below_set ?_ GE523.out | refine below_set ?_ GE534.out | refine below_set ?_ GE543.out | refine below_set ?_ GE546.out) | exact HB.out))) : w.heap.size ≤ gb551)); have n14_ := Aside0.mk ((by rw [hg]; exact Nat.ne_of_lt (blk_lt (g := gb523) (o := .cells #[.slice A0_0 l0_0.length c0_0, .slice (some ad545) l0_1.length c0_1] 25 (0, 0)) (kk_ BK523)) : gb523 ≠ gb551)); have n15_ := Aside0.mk ((by rw [hg]; exact Nat.ne_of_gt (blk_lt (g := gb523) (o := .cells #[.slice A0_0 l0_0.length c0_0, .slice (some ad545) l0_1.length c0_1] 25 (0, 0)) (kk_ BK523)) : gb551 ≠ gb523)); have n16_ := Aside0.mk ((by rw [hg]; exact Nat.ne_of_lt (blk_lt (g := gb534) (o := .cells #[.slice Ao33 t527.length co33, .slice Ao36 t530.length co36] 25 (0, 0)) (kk_ BK534)) : gb534 ≠ gb551)); have n17_ := Aside0.mk ((by rw [hg]; exact Nat.ne_of_gt (blk_lt (g := gb534) (o := .cells #[.slice Ao33 t527.length co33, .slice Ao36 t530.length co36] 25 (0, 0)) (kk_ BK534)) : gb551 ≠ gb534)); have n18_ := Aside0.mk ((by rw [hg]; exact Nat.ne_of_lt (blk_lt (g := gb543) (o := .cells #[.slice Ao51 t536.length co51, .slice (some ad550) t539.length co55] 25 (0, 0)) (kk_ BK543)) : gb543 ≠ gb551)); have n19_ := Aside0.mk ((by rw [hg]; exact Nat.ne_of_gt (blk_lt (g := gb543) (o := .cells #[.slice Ao51 t536.length co51, .slice (some ad550) t539.length co55] 25 (0, 0)) (kk_ BK543)) : gb551 ≠ gb543)); have n20_ := Aside0.mk ((by rw [hg]; exact Nat.ne_of_lt (blk_lt (g := gb546) (o := .cells #[.int .i64 ((rd_T46 l0_1 x13_4).f0), .int .i64 ((rd_T46 l0_1 x13_4).f1), .slice A545_2 ((rd_T46 l0_1 x13_4).f2).length c545_2] 46 (0, 0)) (kk_ BK546)) : gb546 ≠ gb551)); have n21_ := Aside0.mk ((by rw [hg]; exact Nat.ne_of_gt (blk_lt (g := gb546) (o := .cells #[.int .i64 ((rd_T46 l0_1 x13_4).f0), .int .i64 ((rd_T46 l0_1 x13_4).f1), .slice A545_2 ((rd_T46 l0_1 x13_4).f2).length c545_2] 46 (0, 0)) (kk_ BK546)) : gb551 ≠ gb546)); clear HO_535000; clear HO_535001; clear HO_544000; clear HO_544001; clear HL550_2; clear BK523; clear BK534; clear BK543; clear BK546; clear HR550_2; clear HB; have HO_535000 := n0_; have HO_535001 := n1_; have HO_544000 := n2_; have HO_544001 := n3_; have HL550_2 := n4_; have BK523 := n5_; have BK534 := n6_; have BK543 := n7_; have BK546 := n8_; have HR550_2 := n9_; have HB := n10_; have BK551 := n11_; have GW551 := n12_; have GE551 := n13_; have NB523_551 := n14_; have NB551_523 := n15_; have NB534_551 := n16_; have NB551_534 := n17_; have NB543_551 := n18_; have NB551_543 := n19_; have NB546_551 := n20_; have NB551_546 := n21_; clear n0_ n1_ n2_ n3_ n4_ n5_ n6_ n7_ n8_ n9_ n10_ n11_ n12_ n13_ n14_ n15_ n16_ n17_ n18_ n19_ n20_ n21_; clear hb hbox hg; have hnb151 := NB551_523.out; have hnc151 := NB523_551.out; have hnb152 := NB551_534.out; have hnc152 := NB534_551.out; have hnb153 := NB551_543.out; have hnc153 := NB543_551.out; have hnb154 := NB551_546.out; have hnc154 := NB546_551.out; have hcz155_0 : w150.cell? ⟨gb551, 0, none⟩ = some (.int .i64 0) := (blk_cell BK551.out 0).trans rfl; have hcz155_1 : w150.cell? ⟨gb551, 1, none⟩ = some (.int .i64 0) := (blk_cell BK551.out 1).trans rfl; have hcz155_2 : w150.cell? ⟨gb551, 2, none⟩ = some (.slice none 0 0) := (blk_cell BK551.out 2).trans rfl; have hfz155_0 := blk_frozen BK551.out 0; have hfz155_1 := blk_frozen BK551.out 1; have hfz155_2 := blk_frozen BK551.out 2; have hnb156 := NB546_523.out; have hnc156 := NB523_546.out; have hnb157 := NB546_534.out; have hnc157 := NB534_546.out; have hcz158_0 : w150.cell? ⟨gb546, 0, none⟩ = some (.int .i64 ((rd_T46 l0_1 x13_4).f0)) := (blk_cell BK546.out 0).trans rfl; have hcz158_1 : w150.cell? ⟨gb546, 1, none⟩ = some (.int .i64 ((rd_T46 l0_1 x13_4).f1)) := (blk_cell BK546.out 1).trans rfl; have hcz158_2 : w150.cell? ⟨gb546, 2, none⟩ = some (.slice A545_2 ((rd_T46 l0_1 x13_4).f2).length c545_2) := (blk_cell BK546.out 2).trans rfl; have hfz158_0 := blk_frozen BK546.out 0; have hfz158_1 := blk_frozen BK546.out 1; have hfz158_2 := blk_frozen BK546.out 2))
                      go_ret
                      exact ⟨ew_, by repeat (first | (with_reducible first | exact HB.out | apply below_alloc | apply pw_below_drewN | apply below_drew1 | refine below_set ?_ GE523.out | refine below_set ?_ GE534.out | refine below_set ?_ GE543.out | refine below_set ?_ GE546.out | refine below_set ?_ GE551.out) | exact HB.out)⟩
                    ·rw [if_neg c102] at H
                     exact absurd H (by simp)
                   ·rw [if_neg c101] at H
                    exact absurd H (by simp)
              ·rw [if_neg c71] at H
               exact absurd H (by simp)
             ·rw [if_neg c70] at H
              have c70b0 : decide (x13_4 < (l0_1.length : Int)) = false := decide_eq_false c70
              clear c70
              obtain rfl := Option.some.inj H
              have hnb159 := NB523_534.out
              have hnc159 := NB534_523.out
              have hnb160 := NB523_543.out
              have hnc160 := NB543_523.out
              have hcz161_0 : wr.cell? ⟨gb523, 0, none⟩ = some (.slice A0_0 l0_0.length c0_0) := (blk_cell BK523.out 0).trans rfl
              have hcz161_1 : wr.cell? ⟨gb523, 1, none⟩ = some (.slice A0_1 l0_1.length c0_1) := (blk_cell BK523.out 1).trans rfl
              have hfz161_0 := blk_frozen BK523.out 0
              have hfz161_1 := blk_frozen BK523.out 1
              go_wp2
              repeat (go_quiet (fail); try go_wp2)
              go_ret
              exact ⟨ew_, by repeat (first | (with_reducible first | exact HB.out | apply below_alloc | apply pw_below_drewN | apply below_drew1 | refine below_set ?_ GE523.out | refine below_set ?_ GE534.out | refine below_set ?_ GE543.out) | exact HB.out)⟩
       ·rw [if_neg c45] at H
        have c45b0 : (t542 == 0) = false := beq_eq_false_iff_ne.mpr c45
        have c45b1 : (t542 != 0) = true := bne_iff_ne.mpr c45
        by_cases c162 : t524 = true
        ·subst c162
         have H1 : (some ((wrap64 ((t539.length : Int) + (t536.length : Int))) == 0)) = some r := by rw [if_pos rfl] at H; exact H
         clear H
         have H := H1
         clear H1
         obtain rfl := Option.some.inj H
         have hnb163 := NB523_534.out
         have hnc163 := NB534_523.out
         have hcz164_0 : wc.cell? ⟨gb523, 0, none⟩ = some (.slice A0_0 l0_0.length c0_0) := (blk_cell BK523.out 0).trans rfl
         have hcz164_1 : wc.cell? ⟨gb523, 1, none⟩ = some (.slice A0_1 l0_1.length c0_1) := (blk_cell BK523.out 1).trans rfl
         have hfz164_0 := blk_frozen BK523.out 0
         have hfz164_1 := blk_frozen BK523.out 1
         go_wp2_with (first | (go_at_call 15; (with_reducible refine (chain_Next.calls _ _ l0_0 _ _ l0_1 _ _ l1 _ _ l2 t536 t539 t542 _ ?side1 ?side2 ?side3 ?side4 ?side5 ?side6 ?side7 ?side8 A44.out).mono ?_); (case side1 => exact cc_ ((Kd.C_below HR0_0.out HB.out))); (case side2 => exact HC0_0.out); (case side3 => exact cc_ ((Kd.C_below HR0_1.out HB.out))); (case side4 => exact HC0_1.out); (case side5 => exact cc_ ((Kd.C_below HR1.out HB.out))); (case side6 => exact HC1.out); (case side7 => exact cc_ ((Kd.C_below HR2.out HB.out))); (case side8 => exact HC2.out); rintro e w165 ⟨v537, v540, rfl, ho0, ho1, hb⟩; have n0_ := Aside0.mk (Kd.R_elder' (rr_ HO_535000) (Kd.R_base ho0) hb); have n1_ := Aside0.mk (Kd.S_elder' (by (with_reducible repeat (first | apply Kd.S_alloc | apply Kd.S_drewN | apply Kd.S_drew)); exact HO_535001.out) (Kd.S_base ho1) hb); have n2_ := Aside0.mk (Kd.R_lower (Kd.R_new' ho0 (Kd.R_lt (rr_ HO_535000))) (below_size (by repeat (first | (with_reducible first | exact HB.out | apply below_alloc | apply pw_below_drewN | apply below_drew1 | refine below_set ?_ GE523.out | refine below_set ?_ GE534.out) | exact HB.out)))); have n3_ := Aside0.mk (Kd.S_lower (Kd.S_new' ho1 (Kd.S_lt (by (with_reducible repeat (first | apply Kd.S_alloc | apply Kd.S_drewN | apply Kd.S_drew)); exact HO_535001.out))) (below_size (by repeat (first | (with_reducible first | exact HB.out | apply below_alloc | apply pw_below_drewN | apply below_drew1 | refine below_set ?_ GE523.out | refine below_set ?_ GE534.out) | exact HB.out)))); have n4_ := Aside0.mk (blk_below (g := gb523) (o := .cells #[.slice A0_0 l0_0.length c0_0, .slice A0_1 l0_1.length c0_1] 25 (0, 0)) (kk_ BK523) hb); have n5_ := Aside0.mk (blk_below (g := gb534) (o := .cells #[.slice Ao33 t527.length co33, .slice Ao36 t530.length co36] 25 (0, 0)) (kk_ BK534) hb); have n6_ := Aside0.mk (below_step (by repeat (first | (with_reducible first | exact HB.out | apply below_alloc | apply pw_below_drewN | apply below_drew1 | refine below_set ?_ GE523.out | refine below_set ?_ GE534.out) | exact HB.out)) hb); clear HO_535000; clear HO_535001; clear BK523; clear BK534; clear HB; have HO_535000 := n0_; have HO_535001 := n1_; have HO538 := n2_; have HO541 := n3_; have BK523 := n4_; have BK534 := n5_; have HB := n6_; clear n0_ n1_ n2_ n3_ n4_ n5_ n6_; (try clear hb); (try clear hb2); (try clear hk); (try clear hi); (try clear ho0); (try clear ho1)) | ((with_reducible refine gate_dst (N := 10) rfl ?_); (try (refine gate_guard (by rfl) ?_; dsimp only)); refine box_event ?hg (N := 10) ?hd (cs := #[.slice none 0 0, .slice none 0 0]) (t := 25) ?hr ?_; (case hd => rfl); (case hg => rfl); (case hr => first | (go_simp; done) | (go_simp; rfl)); intro gb543 hg w166 hbox hb; have n0_ := Aside0.mk (Kd.R_below (rr_ HO_535000) hb); have n1_ := Aside0.mk (Kd.S_below (by (with_reducible repeat (first | apply Kd.S_alloc | apply Kd.S_drewN | apply Kd.S_drew)); exact HO_535001.out) hb); have n2_ := Aside0.mk (Kd.R_below (rr_ HO538) hb); have n3_ := Aside0.mk (Kd.S_below (by (with_reducible repeat (first | apply Kd.S_alloc | apply Kd.S_drewN | apply Kd.S_drew)); exact HO541.out) hb); have n4_ := Aside0.mk (blk_below (g := gb523) (o := .cells #[.slice A0_0 l0_0.length c0_0, .slice A0_1 l0_1.length c0_1] 25 (0, 0)) (kk_ BK523) hb); have n5_ := Aside0.mk (blk_below (g := gb534) (o := .cells #[.slice Ao33 t527.length co33, .slice Ao36 t530.length co36] 25 (0, 0)) (kk_ BK534) hb); have n6_ := Aside0.mk (below_step (by repeat (first | (with_reducible first | exact HB.out | apply below_alloc | apply pw_below_drewN | apply below_drew1 | refine below_set ?_ GE523.out | refine below_set ?_ GE534.out) | exact HB.out)) hb); have n7_ := Aside0.mk (hbox); have n8_ := Aside0.mk ((by rw [hg]; exact (below_size (by repeat (first | (with_reducible first | exact HB.out | apply below_alloc | apply pw_below_drewN | apply below_drew1 | refine below_set ?_ GE523.out | refine below_set ?_ GE534.out) | exact HB.out))) : w.heap.size ≤ gb543)); have n9_ := Aside0.mk ((by rw [hg]; exact (below_size (by repeat (first | (with_reducible first | exact HB.out | apply below_alloc | apply pw_below_drewN | apply below_drew1 | refine below_set ?_ GE523.out | refine below_set ?_ GE534.out) | exact HB.out))) : w.heap.size ≤ gb543)); have n10_ := Aside0.mk ((by rw [hg]; exact Nat.ne_of_lt (blk_lt (g := gb523) (o := .cells #[.slice A0_0 l0_0.length c0_0, .slice A0_1 l0_1.length c0_1] 25 (0, 0)) (kk_ BK523)) : gb523 ≠ gb543)); have n11_ := Aside0.mk ((by rw [hg]; exact Nat.ne_of_gt (blk_lt (g := gb523) (o := .cells #[.slice A0_0 l0_0.length c0_0, .slice A0_1 l0_1.length c0_1] 25 (0, 0)) (kk_ BK523)) : gb543 ≠ gb523)); have n12_ := Aside0.mk ((by rw [hg]; exact Nat.ne_of_lt (blk_lt (g := gb534) (o := .cells #[.slice Ao33 t527.length co33, .slice Ao36 t530.length co36] 25 (0, 0)) (kk_ BK534)) : gb534 ≠ gb543)); have n13_ := Aside0.mk ((by rw [hg]; exact Nat.ne_of_gt (blk_lt (g := gb534) (o := .cells #[.slice Ao33 t527.length co33, .slice Ao36 t530.length co36] 25 (0, 0)) (kk_ BK534)) : gb543 ≠ gb534)); clear HO_535000; clear HO_535001; clear HO538; clear HO541; clear BK523; clear BK534; clear HB; have HO_535000 := n0_; have HO_535001 := n1_; have HO538 := n2_; have HO541 := n3_; have BK523 := n4_; have BK534 := n5_; have HB := n6_; have BK543 := n7_; have GW543 := n8_; have GE543 := n9_; have NB523_543 := n10_; have NB543_523 := n11_; have NB534_543 := n12_; have NB543_534 := n13_; clear n0_ n1_ n2_ n3_ n4_ n5_ n6_ n7_ n8_ n9_ n10_ n11_ n12_ n13_; clear hb hbox hg; obtain ⟨Ao167, co167, eo167⟩ := Kd.R_slice HO538.out; subst eo167; have hnb168 := NB543_523.out; have hnc168 := NB523_543.out; have hnb169 := NB543_534.out; have hnc169 := NB534_543.out; have hcz170_0 : w166.cell? ⟨gb543, 0, none⟩ = some (.slice none 0 0) := (blk_cell BK543.out 0).trans rfl; have hcz170_1 : w166.cell? ⟨gb543, 1, none⟩ = some (.slice none 0 0) := (blk_cell BK543.out 1).trans rfl; have hfz170_0 := blk_frozen BK543.out 0; have hfz170_1 := blk_frozen BK543.out 1; obtain ⟨Ao171, co171, eo171⟩ := Kd.S_slice HO541.out; subst eo171))
         go_ret
         exact ⟨ew_, by repeat (first | (with_reducible first | exact HB.out | apply below_alloc | apply pw_below_drewN | apply below_drew1 | refine below_set ?_ GE523.out | refine below_set ?_ GE534.out | refine below_set ?_ GE543.out) | exact HB.out)⟩
        ·replace c162 := Bool.eq_false_iff.mpr c162
         subst c162
         have H1 : (some false) = some r := by rw [if_neg (show ¬ (false = true) by decide)] at H; exact H
         clear H
         have H := H1
         clear H1
         obtain rfl := Option.some.inj H
         have hnb172 := NB523_534.out
         have hnc172 := NB534_523.out
         have hcz173_0 : wc.cell? ⟨gb523, 0, none⟩ = some (.slice A0_0 l0_0.length c0_0) := (blk_cell BK523.out 0).trans rfl
         have hcz173_1 : wc.cell? ⟨gb523, 1, none⟩ = some (.slice A0_1 l0_1.length c0_1) := (blk_cell BK523.out 1).trans rfl
         have hfz173_0 := blk_frozen BK523.out 0
         have hfz173_1 := blk_frozen BK523.out 1
         go_wp2_with (first | (go_at_call 15; (with_reducible refine (chain_Next.calls _ _ l0_0 _ _ l0_1 _ _ l1 _ _ l2 t536 t539 t542 _ ?side1 ?side2 ?side3 ?side4 ?side5 ?side6 ?side7 ?side8 A44.out).mono ?_); (case side1 => exact cc_ ((Kd.C_below HR0_0.out HB.out))); (case side2 => exact HC0_0.out); (case side3 => exact cc_ ((Kd.C_below HR0_1.out HB.out))); (case side4 => exact HC0_1.out); (case side5 => exact cc_ ((Kd.C_below HR1.out HB.out))); (case side6 => exact HC1.out); (case side7 => exact cc_ ((Kd.C_below HR2.out HB.out))); (case side8 => exact HC2.out); rintro e w174 ⟨v537, v540, rfl, ho0, ho1, hb⟩; have n0_ := Aside0.mk (Kd.R_elder' (rr_ HO_535000) (Kd.R_base ho0) hb); have n1_ := Aside0.mk (Kd.S_elder' (by (with_reducible repeat (first | apply Kd.S_alloc | apply Kd.S_drewN | apply Kd.S_drew)); exact HO_535001.out) (Kd.S_base ho1) hb); have n2_ := Aside0.mk (Kd.R_lower (Kd.R_new' ho0 (Kd.R_lt (rr_ HO_535000))) (below_size (by repeat (first | (with_reducible first | exact HB.out | apply below_alloc | apply pw_below_drewN | apply below_drew1 | refine below_set ?_ GE523.out | refine below_set ?_ GE534.out) | exact HB.out)))); have n3_ := Aside0.mk (Kd.S_lower (Kd.S_new' ho1 (Kd.S_lt (by (with_reducible repeat (first | apply Kd.S_alloc | apply Kd.S_drewN | apply Kd.S_drew)); exact HO_535001.out))) (below_size (by repeat (first | (with_reducible first | exact HB.out | apply below_alloc | apply pw_below_drewN | apply below_drew1 | refine below_set ?_ GE523.out | refine below_set ?_ GE534.out) | exact HB.out)))); have n4_ := Aside0.mk (blk_below (g := gb523) (o := .cells #[.slice A0_0 l0_0.length c0_0, .slice A0_1 l0_1.length c0_1] 25 (0, 0)) (kk_ BK523) hb); have n5_ := Aside0.mk (blk_below (g := gb534) (o := .cells #[.slice Ao33 t527.length co33, .slice Ao36 t530.length co36] 25 (0, 0)) (kk_ BK534) hb); have n6_ := Aside0.mk (below_step (by repeat (first | (with_reducible first | exact HB.out | apply below_alloc | apply pw_below_drewN | apply below_drew1 | refine below_set ?_ GE523.out | refine below_set ?_ GE534.out) | exact HB.out)) hb); clear HO_535000; clear HO_535001; clear BK523; clear BK534; clear HB; have HO_535000 := n0_; have HO_535001 := n1_; have HO538 := n2_; have HO541 := n3_; have BK523 := n4_; have BK534 := n5_; have HB := n6_; clear n0_ n1_ n2_ n3_ n4_ n5_ n6_; (try clear hb); (try clear hb2); (try clear hk); (try clear hi); (try clear ho0); (try clear ho1)) | ((with_reducible refine gate_dst (N := 10) rfl ?_); (try (refine gate_guard (by rfl) ?_; dsimp only)); refine box_event ?hg (N := 10) ?hd (cs := #[.slice none 0 0, .slice none 0 0]) (t := 25) ?hr ?_; (case hd => rfl); (case hg => rfl); (case hr => first | (go_simp; done) | (go_simp; rfl)); intro gb543 hg w175 hbox hb; have n0_ := Aside0.mk (Kd.R_below (rr_ HO_535000) hb); have n1_ := Aside0.mk (Kd.S_below (by (with_reducible repeat (first | apply Kd.S_alloc | apply Kd.S_drewN | apply Kd.S_drew)); exact HO_535001.out) hb); have n2_ := Aside0.mk (Kd.R_below (rr_ HO538) hb); have n3_ := Aside0.mk (Kd.S_below (by (with_reducible repeat (first | apply Kd.S_alloc | apply Kd.S_drewN | apply Kd.S_drew)); exact HO541.out) hb); have n4_ := Aside0.mk (blk_below (g := gb523) (o := .cells #[.slice A0_0 l0_0.length c0_0, .slice A0_1 l0_1.length c0_1] 25 (0, 0)) (kk_ BK523) hb); have n5_ := Aside0.mk (blk_below (g := gb534) (o := .cells #[.slice Ao33 t527.length co33, .slice Ao36 t530.length co36] 25 (0, 0)) (kk_ BK534) hb); have n6_ := Aside0.mk (below_step (by repeat (first | (with_reducible first | exact HB.out | apply below_alloc | apply pw_below_drewN | apply below_drew1 | refine below_set ?_ GE523.out | refine below_set ?_ GE534.out) | exact HB.out)) hb); have n7_ := Aside0.mk (hbox); have n8_ := Aside0.mk ((by rw [hg]; exact (below_size (by repeat (first | (with_reducible first | exact HB.out | apply below_alloc | apply pw_below_drewN | apply below_drew1 | refine below_set ?_ GE523.out | refine below_set ?_ GE534.out) | exact HB.out))) : w.heap.size ≤ gb543)); have n9_ := Aside0.mk ((by rw [hg]; exact (below_size (by repeat (first | (with_reducible first | exact HB.out | apply below_alloc | apply pw_below_drewN | apply below_drew1 | refine below_set ?_ GE523.out | refine below_set ?_ GE534.out) | exact HB.out))) : w.heap.size ≤ gb543)); have n10_ := Aside0.mk ((by rw [hg]; exact Nat.ne_of_lt (blk_lt (g := gb523) (o := .cells #[.slice A0_0 l0_0.length c0_0, .slice A0_1 l0_1.length c0_1] 25 (0, 0)) (kk_ BK523)) : gb523 ≠ gb543)); have n11_ := Aside0.mk ((by rw [hg]; exact Nat.ne_of_gt (blk_lt (g := gb523) (o := .cells #[.slice A0_0 l0_0.length c0_0, .slice A0_1 l0_1.length c0_1] 25 (0, 0)) (kk_ BK523)) : gb543 ≠ gb523)); have n12_ := Aside0.mk ((by rw [hg]; exact Nat.ne_of_lt (blk_lt (g := gb534) (o := .cells #[.slice Ao33 t527.length co33, .slice Ao36 t530.length co36] 25 (0, 0)) (kk_ BK534)) : gb534 ≠ gb543)); have n13_ := Aside0.mk ((by rw [hg]; exact Nat.ne_of_gt (blk_lt (g := gb534) (o := .cells #[.slice Ao33 t527.length co33, .slice Ao36 t530.length co36] 25 (0, 0)) (kk_ BK534)) : gb543 ≠ gb534)); clear HO_535000; clear HO_535001; clear HO538; clear HO541; clear BK523; clear BK534; clear HB; have HO_535000 := n0_; have HO_535001 := n1_; have HO538 := n2_; have HO541 := n3_; have BK523 := n4_; have BK534 := n5_; have HB := n6_; have BK543 := n7_; have GW543 := n8_; have GE543 := n9_; have NB523_543 := n10_; have NB543_523 := n11_; have NB534_543 := n12_; have NB543_534 := n13_; clear n0_ n1_ n2_ n3_ n4_ n5_ n6_ n7_ n8_ n9_ n10_ n11_ n12_ n13_; clear hb hbox hg; obtain ⟨Ao176, co176, eo176⟩ := Kd.R_slice HO538.out; subst eo176; have hnb177 := NB543_523.out; have hnc177 := NB523_543.out; have hnb178 := NB543_534.out; have hnc178 := NB534_543.out; have hcz179_0 : w175.cell? ⟨gb543, 0, none⟩ = some (.slice none 0 0) := (blk_cell BK543.out 0).trans rfl; have hcz179_1 : w175.cell? ⟨gb543, 1, none⟩ = some (.slice none 0 0) := (blk_cell BK543.out 1).trans rfl; have hfz179_0 := blk_frozen BK543.out 0; have hfz179_1 := blk_frozen BK543.out 1; obtain ⟨Ao180, co180, eo180⟩ := Kd.S_slice HO541.out; subst eo180))
         go_ret
         exact ⟨ew_, by repeat (first | (with_reducible first | exact HB.out | apply below_alloc | apply pw_below_drewN | apply below_drew1 | refine below_set ?_ GE523.out | refine below_set ?_ GE534.out | refine below_set ?_ GE543.out) | exact HB.out)⟩
end
end Go.Proofs.Ytocbiggglnpeoaa.P
end
