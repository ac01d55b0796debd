/- Part 1 of the proof of ChainLate: what it alone needs. -/
import Derived.Test.YtocbiggglnpeoaaCTm
set_option linter.unusedVariables false
set_option linter.unusedSimpArgs false
section
namespace Go.Proofs.Ytocbiggglnpeoaa.P
open Go.RowKit Go.Proofs.YtocbiggglnpeoaaW.PrintWords Go.Proofs.YtocbiggglnpeoaaW.PrintLast Go.Proofs.YtocbiggglnpeoaaW.PrintMore
attribute [local go_sem] max2_int min2_int max_two min_two max_three min_three max_four min_four
set_option linter.unusedVariables false
set_option linter.unusedSimpArgs false
set_option maxHeartbeats 8000000
set_option maxRecDepth 100000
section
attribute [local go_sem high] eqA51
mutual
def cohousinglaw26_ChainLate.j0 : Nat → List (S49) → Int → List (S55) → Int → Bool → Bool → List (S84) → List (S46) → Option (Bool)
 | 0, _, _, _, _, _, _, _, _ => none
 | k + 1, x1, x2, x3, x4, x11, x37, x468000, x468001 => if x37 = true then (some x11) else ((cohousinglaw26_on.f x2).bind fun t470 => (cohousinglaw26_ChainLate.l0 k x1 x3 x4 x11 t470 0 x468000 x468001))
def cohousinglaw26_ChainLate.j2 : Nat → List (S49) → List (S55) → Int → Bool → Int → Int → List (S84) → List (S46) → Option (Bool)
 | 0, _, _, _, _, _, _, _, _ => none
 | k + 1, x1, x3, x4, x11, x12, x13, x468000, x468001 => (chain_Run.f x468000 x468001 x1 x12 x3).bind fun bt472 => (if 0 ≤ x13 then (if x13 ≤ (x3.length : Int) then ((chain_Run.f x468000 x468001 x1 x12 (x3.take (x13 : Int).toNat)).bind fun bt483 => (if bt472.2.2 = 0 then (if bt483.2.2 = 0 then ((cohousingref26_SameMoves.f k bt472.1 bt483.1).bind fun t490 => (if t490 = true then ((cohousingref23_SameInts.f k bt472.2.1 bt483.2.1).bind fun t491 => (cohousinglaw26_ChainLate.j3 k x1 x3 x4 x11 x12 x13 (!t491) x468000 x468001)) else (cohousinglaw26_ChainLate.j3 k x1 x3 x4 x11 x12 x13 true x468000 x468001))) else (cohousinglaw26_ChainLate.j3 k x1 x3 x4 x11 x12 x13 true x468000 x468001)) else (cohousinglaw26_ChainLate.j3 k x1 x3 x4 x11 x12 x13 true x468000 x468001))) else (none)) else (none))
def cohousinglaw26_ChainLate.j3 : Nat → List (S49) → List (S55) → Int → Bool → Int → Int → Bool → List (S84) → List (S46) → Option (Bool)
 | 0, _, _, _, _, _, _, _, _, _ => none
 | k + 1, x1, x3, x4, x11, x12, x13, x93, x468000, x468001 => if x93 = true then (some false) else (if (x1.length : Int) = 0 then (some x11) else (if 0 ≤ (Int.tmod (wrap64 (x4)) (x1.length : Int)) then (if (Int.tmod (wrap64 (x4)) (x1.length : Int)) < (x1.length : Int) then (if 0 < (((rd_T49 x1 (Int.tmod (wrap64 (x4)) (x1.length : Int))).f1).length : Int) then (cohousinglaw26_ChainLate.l1 k x1 x3 x4 x11 x12 x13 0 x468000 x468001 ((rd_T51 ((rd_T49 x1 (Int.tmod (wrap64 (x4)) (x1.length : Int))).f1) 0).f0) ((rd_T51 ((rd_T49 x1 (Int.tmod (wrap64 (x4)) (x1.length : Int))).f1) 0).f1) ((rd_T51 ((rd_T49 x1 (Int.tmod (wrap64 (x4)) (x1.length : Int))).f1) 0).f2)) else (none)) else (none)) else (none)))
def cohousinglaw26_ChainLate.l1 : Nat → List (S49) → List (S55) → Int → Bool → Int → Int → Int → List (S84) → List (S46) → Int → Int → Int → Option (Bool)
 | 0, _, _, _, _, _, _, _, _, _, _, _, _ => none
 | k + 1, x1, x3, x4, x11, x12, x13, x21, x468000, x468001, x495000, x495001, x495002 => if x21 < x13 then (if 0 ≤ x21 then (if x21 < (x3.length : Int) then (if ((rd_T55 x3 x21).f1) = x495000 then (if ((rd_T55 x3 x21).f0) = 3 then (some x11) else (cohousinglaw26_ChainLate.l1 k x1 x3 x4 x11 x12 x13 (wrap64 (x21 + 1)) x468000 x468001 x495000 x495001 x495002)) else (cohousinglaw26_ChainLate.l1 k x1 x3 x4 x11 x12 x13 (wrap64 (x21 + 1)) x468000 x468001 x495000 x495001 x495002)) else (none)) else (none)) else ((some (([] : List (S55)) : List (S55))).bind fun y497 => (if 0 ≤ x13 then (if x13 ≤ (x3.length : Int) then ((some (x3.take (x13 : Int).toNat : List (S55))).bind fun y500 => (if y497.length + y500.length < 5864062014805 then ((some (y497 ++ y500 : List (S55))).bind fun y504 => ((some (([(⟨1, x495000, x12⟩ : S55)] : List (S55)) : List (S55))).bind fun y507 => (if y504.length + y507.length < 5864062014805 then ((chain_Run.f x468000 x468001 x1 x12 (y504 ++ y507)).bind fun bt513 => (cohousinglaw26_ChainLate.l2 k x1 x4 x11 bt513.1 bt513.2.2 0 x495000 x495001 x495002)) else (none)))) else (none))) else (none)) else (none)))
def cohousinglaw26_ChainLate.l2 : Nat → List (S49) → Int → Bool → List (S51) → Int → Int → Int → Int → Int → Option (Bool)
 | 0, _, _, _, _, _, _, _, _, _ => none
 | k + 1, x1, x4, x11, x23, x25, x26, x495000, x495001, x495002 => if x26 < (x23.length : Int) then (if 0 ≤ x26 then (if (((rd_T51 x23 x26).f0) == x495000 && (((rd_T51 x23 x26).f1) == x495001 && (((rd_T51 x23 x26).f2) == x495002))) = true then (if x11 = true then (some (x25 == 0)) else (some false)) else (cohousinglaw26_ChainLate.l2 k x1 x4 x11 x23 x25 (wrap64 (x26 + 1)) x495000 x495001 x495002)) else (none)) else (if x11 = true then (if x25 = 0 then (if (x1.length : Int) = 0 then (none) else (if 0 ≤ (Int.tmod (wrap64 (x4)) (x1.length : Int)) then (if (Int.tmod (wrap64 (x4)) (x1.length : Int)) < (x1.length : Int) then (if ((rd_T49 x1 (Int.tmod (wrap64 (x4)) (x1.length : Int))).f0 = true) then (some false) else (some (decide ((((rd_T49 x1 (Int.tmod (wrap64 (x4)) (x1.length : Int))).f1).length : Int) > 1)))) else (none)) else (none))) else (some false)) else (some false))
def cohousinglaw26_ChainLate.l0 : Nat → List (S49) → List (S55) → Int → Bool → Int → Int → List (S84) → List (S46) → Option (Bool)
 | 0, _, _, _, _, _, _, _, _ => none
 | k + 1, x1, x3, x4, x11, x12, x13, x468000, x468001 => if x13 < (x3.length : Int) then (if 0 ≤ x13 then (if ((rd_T55 x3 x13).f2) ≤ x12 then (cohousinglaw26_ChainLate.l0 k x1 x3 x4 x11 x12 (wrap64 (x13 + 1)) x468000 x468001) else (cohousinglaw26_ChainLate.j2 k x1 x3 x4 x11 x12 x13 x468000 x468001)) else (none)) else (cohousinglaw26_ChainLate.j2 k x1 x3 x4 x11 x12 x13 x468000 x468001)
end
def cohousinglaw26_ChainLate.f (k : Nat) (l0_0 : List (S84)) (l0_1 : List (S46)) (l1 : List (S49)) (a2 : Int) (l3 : List (S55)) (a4 : Int) : Option (Bool) := (cohousinglaw26_head.f k).bind fun t468 => ((cohousinglaw26_usable.f k l0_0 l0_1 l1 l3).bind fun t469 => (if t469 = true then (cohousinglaw26_ChainLate.j0 k l1 a2 l3 a4 t468 (decide ((l3.length : Int) > 59)) l0_0 l0_1) else (cohousinglaw26_ChainLate.j0 k l1 a2 l3 a4 t468 true l0_0 l0_1)))
def cohousinglaw26_ChainLate.T9 : Bool × List (List Nat × List Nat) := (true, [([], []), ([], []), ([], []), ([], []), ([], []), ([3, 4], [3, 4]), ([0, 1, 2, 5], [0, 1, 2, 5]), ([6], [6]), ([7], [7]), ([7], [7]), ([7], [7]), ([8, 6, 0, 1, 2, 3, 4, 5, 6, 7, 8], [8]), ([9, 11, 0, 1, 2, 3, 4, 5, 6, 7, 8, 9, 11], [9]), ([10, 12, 0, 1, 2, 3, 4, 5, 6, 7, 8, 9, 10, 11, 12], [10])])
def cohousinglaw26_ChainLate.B9 : List Nat := [0, 0, 0, 0, 0, 24, 63, 127, 255, 255, 255, 511, 3071, 8191]
theorem cohousinglaw26_ChainLate.tab9 : rtab .any (opsOf Try.f7 9) = cohousinglaw26_ChainLate.T9 := by kernel_rfl
theorem cohousinglaw26_ChainLate.bits9 : waitsOk cohousinglaw26_ChainLate.T9.2 cohousinglaw26_ChainLate.B9 = true := by kernel_rfl
def cohousinglaw26_ChainLate.T18 : Bool × List (List Nat × List Nat) := (true, [([], []), ([], []), ([0, 1], [0, 1]), ([2], [2]), ([3], [3]), ([], []), ([5], [5]), ([4, 6], [4, 6]), ([7], [7]), ([8], [8]), ([8], [8]), ([9, 10, 8], [8, 9, 10]), ([11, 8], [8, 11]), ([12, 8], [8, 12]), ([13, 8], [8, 13]), ([8, 14], [8, 14])])
def cohousinglaw26_ChainLate.B18 : List Nat := [0, 0, 3, 7, 15, 0, 32, 127, 255, 511, 511, 2047, 4095, 8191, 16383, 32767]
theorem cohousinglaw26_ChainLate.tab18 : rtab .any (opsOf Try.f7 18) = cohousinglaw26_ChainLate.T18 := by kernel_rfl
theorem cohousinglaw26_ChainLate.bits18 : waitsOk cohousinglaw26_ChainLate.T18.2 cohousinglaw26_ChainLate.B18 = true := by kernel_rfl
def cohousinglaw26_ChainLate.T20 : Bool × List (List Nat × List Nat) := (true, [([], []), ([], []), ([], []), ([1, 2], [1, 2]), ([0, 3], [0, 3]), ([], []), ([5], [5]), ([], []), ([6, 7], [6, 7]), ([8], [8]), ([4, 9, 4], [4, 9]), ([10, 10, 0, 1, 2, 3, 4, 5, 6, 7, 8, 9, 10], [10])])
def cohousinglaw26_ChainLate.B20 : List Nat := [0, 0, 0, 6, 15, 0, 32, 0, 224, 480, 1023, 2047]
theorem cohousinglaw26_ChainLate.tab20 : rtab .any (opsOf Try.f7 20) = cohousinglaw26_ChainLate.T20 := by kernel_rfl
theorem cohousinglaw26_ChainLate.bits20 : waitsOk cohousinglaw26_ChainLate.T20.2 cohousinglaw26_ChainLate.B20 = true := by kernel_rfl
theorem cohousinglaw26_ChainLate.calls (k : Nat) (A0_0 : Option Addr) (c0_0 : Nat) (l0_0 : List (S84)) (A0_1 : Option Addr) (c0_1 : Nat) (l0_1 : List (S46)) (A1 : Option Addr) (c1 : Nat) (l1 : List (S49)) (a2 : Int) (A3 : Option Addr) (c3 : Nat) (l3 : List (S55)) (a4 : Int) (r : Bool) (w : World) (hr0_0 : Kd.C k84 w A0_0 l0_0.length l0_0) (hc0_0 : l0_0.length ≤ c0_0) (hr0_1 : Kd.C k46 w A0_1 l0_1.length l0_1) (hc0_1 : l0_1.length ≤ c0_1) (hr1 : Kd.C k49 w A1 l1.length l1) (hc1 : l1.length ≤ c1) (hr3 : Kd.C k55 w A3 l3.length l3) (hc3 : l3.length ≤ c3) (h : cohousinglaw26_ChainLate.f k l0_0 l0_1 l1 a2 l3 a4 = some r) :
  Calls Try.prog 7 #[.agg #[.slice A0_0 l0_0.length c0_0, .slice A0_1 l0_1.length c0_1], .slice A1 l1.length c1, .int .u16 a2, .slice A3 l3.length c3, .int .u8 a4] w fun e w' => e = .returned (.bool r) ∧ Below w.heap.size w w' := by
 have hu25 := Try.underlying25
 have hu51 := Try.underlying51
 have hu55 := Try.underlying55
 have HR0_0 := Aside0.mk hr0_0
 have HC0_0 := Aside0.mk hc0_0
 clear hr0_0 hc0_0
 have HR0_1 := Aside0.mk hr0_1
 have HC0_1 := Aside0.mk hc0_1
 clear hr0_1 hc0_1
 have HR1 := Aside0.mk hr1
 have HC1 := Aside0.mk hc1
 clear hr1 hc1
 have HR3 := Aside0.mk hr3
 have HC3 := Aside0.mk hc3
 clear hr3 hc3
 have HB := Aside0.mk (Below.refl w.heap.size w)
 have H : ((cohousinglaw26_head.f k).bind fun t468 => ((cohousinglaw26_usable.f k l0_0 l0_1 l1 l3).bind fun t469 => (if t469 = true then (cohousinglaw26_ChainLate.j0 k l1 a2 l3 a4 t468 (decide ((l3.length : Int) > 59)) l0_0 l0_1) else (cohousinglaw26_ChainLate.j0 k l1 a2 l3 a4 t468 true l0_0 l0_1)))) = some r := h
 clear h
 replace H := Option.bind_eq_some_iff.mp H
 obtain ⟨t468, A60, H⟩ := H
 replace H : ((cohousinglaw26_usable.f k l0_0 l0_1 l1 l3).bind fun t469 => (if t469 = true then (cohousinglaw26_ChainLate.j0 k l1 a2 l3 a4 t468 (decide ((l3.length : Int) > 59)) l0_0 l0_1) else (cohousinglaw26_ChainLate.j0 k l1 a2 l3 a4 t468 true l0_0 l0_1))) = some r := H
 have A6 := Aside0.mk A60
 clear A60
 have HC7 := Aside0.mk H
 clear H
 go_enter Try.func7, Try.ntmps7
 go_upto_region 2 with (first | ((with_reducible refine gate_dst (N := 5) rfl ?_); (try (refine gate_guard (by rfl) ?_; dsimp only)); refine box_event ?hg (N := 5) ?hd (cs := #[.slice A0_0 l0_0.length c0_0, .slice A0_1 l0_1.length c0_1]) (t := 25) ?hr ?_; (case hd => rfl); (case hg => rfl); (case hr => first | (go_simp; done) | (go_simp; rfl)); intro gb467 hg w8 hbox hb; have n0_ := Aside0.mk (below_step (bb_ HB) hb); have n1_ := Aside0.mk (hbox); have n2_ := Aside0.mk ((by rw [hg]; exact (below_size (bb_ HB)) : w.heap.size ≤ gb467)); have n3_ := Aside0.mk ((by rw [hg]; exact (below_size (bb_ HB)) : w.heap.size ≤ gb467)); clear HB; have HB := n0_; have BK467 := n1_; have GW467 := n2_; have GE467 := n3_; clear n0_ n1_ n2_ n3_; clear hb hbox hg) | ((with_reducible refine gate_callee (f := 10) rfl ?_); refine gl_ (some 27) Try.func10 #[] ?_; (with_reducible refine (cohousinglaw26_head.calls k  t468 _ A6.out).mono ?_); rintro e w9 ⟨rfl, hb⟩; refine ⟨_, rfl, ?_⟩; have n0_ := Aside0.mk (blk_below (g := gb467) (o := .cells #[.slice A0_0 l0_0.length c0_0, .slice A0_1 l0_1.length c0_1] 25 (0, 0)) (kk_ BK467) hb); have n1_ := Aside0.mk (below_step (bs_ HB GE467.out) hb); clear BK467; clear HB; have BK467 := n0_; have HB := n1_; clear n0_ n1_; (try clear hb); (try clear hb2); (try clear hk); (try clear hi)))
 (try simp only [Act.put, sI_, s0_, sS_])
 go_cut [37] (fun v37 wc => ∃ (kq : Nat) (x37_6 : Bool), v37 = .bool x37_6 ∧ Aside0 (cohousinglaw26_ChainLate.j0 kq l1 a2 l3 a4 t468 x37_6 l0_0 l0_1 = some r) ∧ Aside0 (kq ≤ k) ∧ Aside0 (wc.heap[gb467]? = some (.cells #[(.slice A0_0 l0_0.length c0_0), (.slice A0_1 l0_1.length c0_1)] 25 (0, 0))) ∧ Aside0 (Below w.heap.size w wc))
 case first =>
  have H := HC7.out
  clear HC7
  replace H := Option.bind_eq_some_iff.mp H
  obtain ⟨t469, A100, H⟩ := H
  replace H : (if t469 = true then (cohousinglaw26_ChainLate.j0 k l1 a2 l3 a4 t468 (decide ((l3.length : Int) > 59)) l0_0 l0_1) else (cohousinglaw26_ChainLate.j0 k l1 a2 l3 a4 t468 true l0_0 l0_1)) = some r := H
  have A10 := Aside0.mk A100
  clear A100
  by_cases c11 : t469 = true
  ·subst c11
   have H1 : (cohousinglaw26_ChainLate.j0 k l1 a2 l3 a4 t468 (decide ((l3.length : Int) > 59)) l0_0 l0_1) = some r := by rw [if_pos rfl] at H; exact H
   clear H
   have H := H1
   clear H1
   have H' := Aside0.mk H
   clear H
   have hcz12_0 : w9.cell? ⟨gb467, 0, none⟩ = some (.slice A0_0 l0_0.length c0_0) := (blk_cell BK467.out 0).trans rfl
   have hcz12_1 : w9.cell? ⟨gb467, 1, none⟩ = some (.slice A0_1 l0_1.length c0_1) := (blk_cell BK467.out 1).trans rfl
   have hfz12_0 := blk_frozen BK467.out 0
   have hfz12_1 := blk_frozen BK467.out 1
   go_wp2_with (first | ((with_reducible refine gate_callee (f := 20) rfl ?_); refine gl_ (some 31) Try.func20 #[.agg #[.slice A0_0 l0_0.length c0_0, .slice A0_1 l0_1.length c0_1], .slice A1 l1.length c1, .slice A3 l3.length c3] ?_; (with_reducible refine (cohousinglaw26_usable.calls k _ _ l0_0 _ _ l0_1 _ _ l1 _ _ l3 true _ ?side1 ?side2 ?side3 ?side4 ?side5 ?side6 ?side7 ?side8 A10.out).mono ?_); (case side1 => exact cc_ ((Kd.C_below HR0_0.out HB.out))); (case side2 => exact HC0_0.out); (case side3 => exact cc_ ((Kd.C_below HR0_1.out HB.out))); (case side4 => exact HC0_1.out); (case side5 => exact cc_ ((Kd.C_below HR1.out HB.out))); (case side6 => exact HC1.out); (case side7 => exact cc_ ((Kd.C_below HR3.out HB.out))); (case side8 => exact HC3.out); rintro e w13 ⟨rfl, hb⟩; refine ⟨_, rfl, ?_⟩; have n0_ := Aside0.mk (blk_below (g := gb467) (o := .cells #[.slice A0_0 l0_0.length c0_0, .slice A0_1 l0_1.length c0_1] 25 (0, 0)) (kk_ BK467) hb); have n1_ := Aside0.mk (below_step (bs_ HB GE467.out) hb); clear BK467; clear HB; have BK467 := n0_; have HB := n1_; clear n0_ n1_; (try clear hb); (try clear hb2); (try clear hk); (try clear hi)))
   go_meet
   case rel => exact ⟨_, (decide ((l3.length : Int) > 59)), sd_, H', ⟨by first | omega | exact Nat.le_refl _⟩, ⟨by (with_reducible repeat (first | refine blk_drewN ?_ _ | refine blk_drew ?_ | refine blk_alloc ?_ _)); exact BK467.out⟩, ⟨by repeat (first | (with_reducible first | exact HB.out | apply below_alloc | apply pw_below_drewN | apply below_drew1 | refine below_set ?_ GE467.out) | exact HB.out)⟩⟩
  ·replace c11 := Bool.eq_false_iff.mpr c11
   subst c11
   have H1 : (cohousinglaw26_ChainLate.j0 k l1 a2 l3 a4 t468 true l0_0 l0_1) = some r := by rw [if_neg (show ¬ (false = true) by decide)] at H; exact H
   clear H
   have H := H1
   clear H1
   have H' := Aside0.mk H
   clear H
   have hcz14_0 : w9.cell? ⟨gb467, 0, none⟩ = some (.slice A0_0 l0_0.length c0_0) := (blk_cell BK467.out 0).trans rfl
   have hcz14_1 : w9.cell? ⟨gb467, 1, none⟩ = some (.slice A0_1 l0_1.length c0_1) := (blk_cell BK467.out 1).trans rfl
   have hfz14_0 := blk_frozen BK467.out 0
   have hfz14_1 := blk_frozen BK467.out 1
   go_wp2_with (first | ((with_reducible refine gate_callee (f := 20) rfl ?_); refine gl_ (some 31) Try.func20 #[.agg #[.slice A0_0 l0_0.length c0_0, .slice A0_1 l0_1.length c0_1], .slice A1 l1.length c1, .slice A3 l3.length c3] ?_; (with_reducible refine (cohousinglaw26_usable.calls k _ _ l0_0 _ _ l0_1 _ _ l1 _ _ l3 false _ ?side1 ?side2 ?side3 ?side4 ?side5 ?side6 ?side7 ?side8 A10.out).mono ?_); (case side1 => exact cc_ ((Kd.C_below HR0_0.out HB.out))); (case side2 => exact HC0_0.out); (case side3 => exact cc_ ((Kd.C_below HR0_1.out HB.out))); (case side4 => exact HC0_1.out); (case side5 => exact cc_ ((Kd.C_below HR1.out HB.out))); (case side6 => exact HC1.out); (case side7 => exact cc_ ((Kd.C_below HR3.out HB.out))); (case side8 => exact HC3.out); rintro e w15 ⟨rfl, hb⟩; refine ⟨_, rfl, ?_⟩; have n0_ := Aside0.mk (blk_below (g := gb467) (o := .cells #[.slice A0_0 l0_0.length c0_0, .slice A0_1 l0_1.length c0_1] 25 (0, 0)) (kk_ BK467) hb); have n1_ := Aside0.mk (below_step (bs_ HB GE467.out) hb); clear BK467; clear HB; have BK467 := n0_; have HB := n1_; clear n0_ n1_; (try clear hb); (try clear hb2); (try clear hk); (try clear hi)))
   go_meet
   case rel => exact ⟨_, (true), sd_, H', ⟨by first | omega | exact Nat.le_refl _⟩, ⟨by (with_reducible repeat (first | refine blk_drewN ?_ _ | refine blk_drew ?_ | refine blk_alloc ?_ _)); exact BK467.out⟩, ⟨by repeat (first | (with_reducible first | exact HB.out | apply below_alloc | apply pw_below_drewN | apply below_drew1 | refine below_set ?_ GE467.out) | exact HB.out)⟩⟩
 case rest =>
  clear HC7
  try clear c1
  try clear c2
  try clear p2
  try clear c3
  try clear c7
  try clear c10
  try clear c11
  try clear hcz12_0
  try clear hcz12_1
  try clear hcz14_0
  try clear hcz14_1
  try clear hfz12_0
  try clear hfz12_1
  try clear hfz14_0
  try clear hfz14_1
  obtain ⟨kq, x37_6, rfl, HA, HJ6, BK467, HB⟩ := hcut
  cases kq with
  | zero => exact absurd HA.out (by simp [cohousinglaw26_ChainLate.j0])
  | succ kj6 =>
   have H := HA.out
   clear HA
   simp only [cohousinglaw26_ChainLate.j0] at H
   by_cases c16 : x37_6 = true
   ·subst c16
    have H1 : (some t468) = some r := by rw [if_pos rfl] at H; exact H
    clear H
    have H := H1
    clear H1
    obtain rfl := Option.some.inj H
    go_wp2
    go_ret
    exact ⟨ew_, by repeat (first | (with_reducible first | exact HB.out | apply below_alloc | apply pw_below_drewN | apply below_drew1 | refine below_set ?_ GE467.out) | exact HB.out)⟩
   ·replace c16 := Bool.eq_false_iff.mpr c16
    subst c16
    have H1 : ((cohousinglaw26_on.f a2).bind fun t470 => (cohousinglaw26_ChainLate.l0 kj6 l1 l3 a4 t468 t470 0 l0_0 l0_1)) = some r := by rw [if_neg (show ¬ (false = true) by decide)] at H; exact H
    clear H
    have H := H1
    clear H1
    replace H := Option.bind_eq_some_iff.mp H
    obtain ⟨t470, A170, H⟩ := H
    replace H : (cohousinglaw26_ChainLate.l0 kj6 l1 l3 a4 t468 t470 0 l0_0 l0_1) = some r := H
    have A17 := Aside0.mk A170
    clear A170
    have HC18 := Aside0.mk H
    clear H
    go_upto_block 0 with (first | ((with_reducible refine gate_callee (f := 21) rfl ?_); refine gl_ (some 40) Try.func21 #[.int .u16 a2] ?_; (with_reducible refine (cohousinglaw26_on.calls a2 t470 _ A17.out).mono ?_); rintro e w' ⟨rfl, ⟨nd, rfl⟩⟩; refine ⟨_, rfl, ?_⟩))
    (try simp only [Act.put, sI_, s0_, sS_])
    go_cut [13] (fun v13 wc => ∃ (kq : Nat) (x13_17 : Int), v13 = .int .i64 x13_17 ∧ Aside0 (cohousinglaw26_ChainLate.j2 kq l1 l3 a4 t468 t470 x13_17 l0_0 l0_1 = some r) ∧ Aside0 (kq ≤ kj6) ∧ Aside0 (wc.heap[gb467]? = some (.cells #[(.slice A0_0 l0_0.length c0_0), (.slice A0_1 l0_1.length c0_1)] 25 (0, 0))) ∧ Aside0 (Below w.heap.size w wc))
    case first =>
     have H := HC18.out
     clear HC18
     have H' := Aside0.mk H
     clear H
     go_wp2
     go_loopg [13] kj6 (fun kq v13 w' => ∃ (x13_2 : Int), v13 = .int .i64 x13_2 ∧ Aside0 (cohousinglaw26_ChainLate.l0 kq l1 l3 a4 t468 t470 x13_2 l0_0 l0_1 = some r) ∧ Aside0 (kq ≤ kj6) ∧ Aside0 (w'.heap[gb467]? = some (.cells #[(.slice A0_0 l0_0.length c0_0), (.slice A0_1 l0_1.length c0_1)] 25 (0, 0))) ∧ Aside0 (Below w.heap.size w w'))
     case atStart => exact ⟨(0), sd_, H', ⟨Nat.le_refl _⟩, ⟨by (with_reducible repeat (first | refine blk_drewN ?_ _ | refine blk_drew ?_ | refine blk_alloc ?_ _)); exact BK467.out⟩, ⟨by repeat (first | (with_reducible first | exact HB.out | apply below_alloc | apply pw_below_drewN | apply below_drew1 | refine below_set ?_ GE467.out) | exact HB.out)⟩⟩
     case round =>
      clear H'
      try clear c1
      try clear c2
      try clear p2
      try clear c3
      try clear c7
      try clear c10
      try clear c11
      try clear c16
      try clear hcz12_0
      try clear hcz12_1
      try clear hcz14_0
      try clear hcz14_1
      try clear hfz12_0
      try clear hfz12_1
      try clear hfz14_0
      try clear hfz14_1
      try clear p2
      obtain ⟨x13_2, rfl, HA, HK2, BK467, HB⟩ := hrel
      cases gk with
      | zero => exact absurd HA.out (by simp [cohousinglaw26_ChainLate.l0])
      | succ k2 =>
       have H := HA.out
       clear HA
       simp only [cohousinglaw26_ChainLate.l0] at H
       by_cases c19 : x13_2 < (l3.length : Int)
       ·rw [if_pos c19] at H
        have c19b0 : decide (x13_2 < (l3.length : Int)) = true := decide_eq_true c19
        clear c19
        (first | rw [c19b0] | (simp only [i64_w, i32_w]; rw [c19b0]) | skip)
        by_cases c20 : 0 ≤ x13_2
        ·rw [if_pos c20] at H
         have c20b0 : decide (0 ≤ x13_2) = true := decide_eq_true c20
         clear c20
         by_cases c21 : ((rd_T55 l3 x13_2).f2) ≤ t470
         ·rw [if_pos c21] at H
          have c21b0 : decide (((rd_T55 l3 x13_2).f2) ≤ t470) = true := decide_eq_true c21
          clear c21
          have H' := Aside0.mk H
          clear H
          have p471 : 0 ≤ (x13_2 : Int) := od_
          have q471 : x13_2 < (l3.length : Int) := od_
          obtain ⟨ad471, e471, hx471_0, hx471_1, hx471_2⟩ := at_T55 HR3.out x13_2 p471 q471
          cases e471
          replace hx471_0 := (HB.out.cell (World.block_lt_of_cell? w _ hx471_0)).trans hx471_0
          replace hx471_1 := (HB.out.cell (World.block_lt_of_cell? w _ hx471_1)).trans hx471_1
          replace hx471_2 := (HB.out.cell (World.block_lt_of_cell? w _ hx471_2)).trans hx471_2
          replace p471 := eq_true p471
          replace q471 := eq_true q471
          go_wp2
          go_roundg k2
          case measure => have := HJ6.out; have := HK2.out; omega
          case rel => exact ⟨(wrap64 (x13_2 + 1)), sd_, H', ⟨by have := HJ6.out; have := HK2.out; omega⟩, ⟨by (with_reducible repeat (first | refine blk_drewN ?_ _ | refine blk_drew ?_ | refine blk_alloc ?_ _)); exact BK467.out⟩, ⟨by repeat (first | (with_reducible first | exact HB.out | apply below_alloc | apply pw_below_drewN | apply below_drew1 | refine below_set ?_ GE467.out) | exact HB.out)⟩⟩
         ·rw [if_neg c21] at H
          have c21b0 : decide (((rd_T55 l3 x13_2).f2) ≤ t470) = false := decide_eq_false c21
          clear c21
          have H' := Aside0.mk H
          clear H
          have p471 : 0 ≤ (x13_2 : Int) := od_
          have q471 : x13_2 < (l3.length : Int) := od_
          obtain ⟨ad471, e471, hx471_0, hx471_1, hx471_2⟩ := at_T55 HR3.out x13_2 p471 q471
          cases e471
          replace hx471_0 := (HB.out.cell (World.block_lt_of_cell? w _ hx471_0)).trans hx471_0
          replace hx471_1 := (HB.out.cell (World.block_lt_of_cell? w _ hx471_1)).trans hx471_1
          replace hx471_2 := (HB.out.cell (World.block_lt_of_cell? w _ hx471_2)).trans hx471_2
          replace p471 := eq_true p471
          replace q471 := eq_true q471
          go_wp2
          go_meet
          case rel => exact ⟨_, (x13_2), sd_, H', ⟨by have := HJ6.out; have := HK2.out; first | omega | exact Nat.le_refl _⟩, ⟨by (with_reducible repeat (first | refine blk_drewN ?_ _ | refine blk_drew ?_ | refine blk_alloc ?_ _)); exact BK467.out⟩, ⟨by repeat (first | (with_reducible first | exact HB.out | apply below_alloc | apply pw_below_drewN | apply below_drew1 | refine below_set ?_ GE467.out) | exact HB.out)⟩⟩
        ·rw [if_neg c20] at H
         exact absurd H (by simp)
       ·rw [if_neg c19] at H
        have c19b0 : decide (x13_2 < (l3.length : Int)) = false := decide_eq_false c19
        clear c19
        (first | rw [c19b0] | (simp only [i64_w, i32_w]; rw [c19b0]) | skip)
        have H' := Aside0.mk H
        clear H
        go_wp2
        go_meet
        case rel => exact ⟨_, (x13_2), sd_, H', ⟨by have := HJ6.out; have := HK2.out; first | omega | exact Nat.le_refl _⟩, ⟨by (with_reducible repeat (first | refine blk_drewN ?_ _ | refine blk_drew ?_ | refine blk_alloc ?_ _)); exact BK467.out⟩, ⟨by repeat (first | (with_reducible first | exact HB.out | apply below_alloc | apply pw_below_drewN | apply below_drew1 | refine below_set ?_ GE467.out) | exact HB.out)⟩⟩
    case rest =>
     clear HC18
     try clear c1
     try clear c2
     try clear p2
     try clear c3
     try clear p4
     try clear q4
     try clear hx4
     try clear p6
     try clear c7
     try clear c10
     try clear c11
     try clear c16
     try clear c19
     try clear c19b0
     try clear c20
     try clear c20b0
     try clear c21
     try clear c21b0
     try clear hcz12_0
     try clear hcz12_1
     try clear hcz14_0
     try clear hcz14_1
     try clear hfz12_0
     try clear hfz12_1
     try clear hfz14_0
     try clear hfz14_1
     try clear hx471_0
     try clear hx471_1
     try clear hx471_2
     try clear p2
     try clear p471
     try clear q471
     obtain ⟨kq, x13_17, rfl, HA, HJ17, BK467, HB⟩ := hcut
     cases kq with
     | zero => exact absurd HA.out (by simp [cohousinglaw26_ChainLate.j2])
     | succ kj17 =>
      have H := HA.out
      clear HA
      simp only [cohousinglaw26_ChainLate.j2] at H
      replace H := Option.bind_eq_some_iff.mp H
      obtain ⟨⟨t472, t475, t478⟩, A220, H⟩ := H
      replace H : (if 0 ≤ x13_17 then (if x13_17 ≤ (l3.length : Int) then ((chain_Run.f l0_0 l0_1 l1 t470 (l3.take (x13_17 : Int).toNat)).bind fun bt483 => (if t478 = 0 then (if bt483.2.2 = 0 then ((cohousingref26_SameMoves.f kj17 t472 bt483.1).bind fun t490 => (if t490 = true then ((cohousingref23_SameInts.f kj17 t475 bt483.2.1).bind fun t491 => (cohousinglaw26_ChainLate.j3 kj17 l1 l3 a4 t468 t470 x13_17 (!t491) l0_0 l0_1)) else (cohousinglaw26_ChainLate.j3 kj17 l1 l3 a4 t468 t470 x13_17 true l0_0 l0_1))) else (cohousinglaw26_ChainLate.j3 kj17 l1 l3 a4 t468 t470 x13_17 true l0_0 l0_1)) else (cohousinglaw26_ChainLate.j3 kj17 l1 l3 a4 t468 t470 x13_17 true l0_0 l0_1))) else (none)) else (none)) = some r := H
      have A22 := Aside0.mk A220
      clear A220
      by_cases c23 : 0 ≤ x13_17
      ·rw [if_pos c23] at H
       have c23b0 := eq_true c23
       have c23b1 : decide (0 ≤ x13_17) = true := decide_eq_true c23
       clear c23
       by_cases c24 : x13_17 ≤ (l3.length : Int)
       ·rw [if_pos c24] at H
        have c24b0 := eq_true c24
        have c24b1 : decide (x13_17 ≤ (l3.length : Int)) = true := decide_eq_true c24
        clear c24
        obtain ⟨y479, hy479⟩ : ∃ y_ : List (S55), y_ = (l3.take (x13_17 : Int).toNat) := ⟨_, rfl⟩
        replace H : ((chain_Run.f l0_0 l0_1 l1 t470 y479).bind fun bt483 => (if t478 = 0 then (if bt483.2.2 = 0 then ((cohousingref26_SameMoves.f kj17 t472 bt483.1).bind fun t490 => (if t490 = true then ((cohousingref23_SameInts.f kj17 t475 bt483.2.1).bind fun t491 => (cohousinglaw26_ChainLate.j3 kj17 l1 l3 a4 t468 t470 x13_17 (!t491) l0_0 l0_1)) else (cohousinglaw26_ChainLate.j3 kj17 l1 l3 a4 t468 t470 x13_17 true l0_0 l0_1))) else (cohousinglaw26_ChainLate.j3 kj17 l1 l3 a4 t468 t470 x13_17 true l0_0 l0_1)) else (cohousinglaw26_ChainLate.j3 kj17 l1 l3 a4 t468 t470 x13_17 true l0_0 l0_1))) = some r := by first | (rw [hy479]; with_reducible exact H) | (have H2_ := (Option.bind_some _ _).symm.trans H; rw [hy479]; with_reducible exact H2_) | (have H2_ := (Option.bind_some _ _).symm.trans H; with_reducible exact H2_) | with_reducible exact H | (rw [hy479]; exact H) | exact H
        have Ny479 := Aside0.mk hy479
        clear hy479
        replace H := Option.bind_eq_some_iff.mp H
        obtain ⟨⟨t483, t486, t489⟩, A250, H⟩ := H
        replace H : (if t478 = 0 then (if t489 = 0 then ((cohousingref26_SameMoves.f kj17 t472 t483).bind fun t490 => (if t490 = true then ((cohousingref23_SameInts.f kj17 t475 t486).bind fun t491 => (cohousinglaw26_ChainLate.j3 kj17 l1 l3 a4 t468 t470 x13_17 (!t491) l0_0 l0_1)) else (cohousinglaw26_ChainLate.j3 kj17 l1 l3 a4 t468 t470 x13_17 true l0_0 l0_1))) else (cohousinglaw26_ChainLate.j3 kj17 l1 l3 a4 t468 t470 x13_17 true l0_0 l0_1)) else (cohousinglaw26_ChainLate.j3 kj17 l1 l3 a4 t468 t470 x13_17 true l0_0 l0_1)) = some r := H
        have A25 := Aside0.mk A250
        clear A250
        have HC26 := Aside0.mk H
        clear H
        have hcz27_0 : wc.cell? ⟨gb467, 0, none⟩ = some (.slice A0_0 l0_0.length c0_0) := (blk_cell BK467.out 0).trans rfl
        have hcz27_1 : wc.cell? ⟨gb467, 1, none⟩ = some (.slice A0_1 l0_1.length c0_1) := (blk_cell BK467.out 1).trans rfl
        have hfz27_0 := blk_frozen BK467.out 0
        have hfz27_1 := blk_frozen BK467.out 1
        try go_wp2_with (first | ((with_reducible refine gate_callee (f := 13) rfl ?_); refine gl_ (some 61) Try.func13 #[.agg #[.slice A0_0 l0_0.length c0_0, .slice A0_1 l0_1.length c0_1], .slice A1 l1.length c1, .int .i64 t470, .slice A3 l3.length c3] ?_; (with_reducible refine (chain_Run.calls _ _ l0_0 _ _ l0_1 _ _ l1 t470 _ _ l3 t472 t475 t478 _ ?side1 ?side2 ?side3 ?side4 ?side5 ?side6 ?side7 ?side8 A22.out).mono ?_); (case side1 => exact cc_ ((Kd.C_below HR0_0.out HB.out))); (case side2 => exact HC0_0.out); (case side3 => exact cc_ ((Kd.C_below HR0_1.out HB.out))); (case side4 => exact HC0_1.out); (case side5 => exact cc_ ((Kd.C_below HR1.out HB.out))); (case side6 => exact HC1.out); (case side7 => exact cc_ ((Kd.C_below HR3.out HB.out))); (case side8 => exact HC3.out); rintro e w28 ⟨v473, v476, rfl, ho0, ho1, hb⟩; refine ⟨_, rfl, ?_⟩; have n0_ := Aside0.mk (Kd.R_lower ho0 (below_size (bs_ HB GE467.out))); have n1_ := Aside0.mk (Kd.R_lower ho1 (below_size (bs_ HB GE467.out))); have n2_ := Aside0.mk (blk_below (g := gb467) (o := .cells #[.slice A0_0 l0_0.length c0_0, .slice A0_1 l0_1.length c0_1] 25 (0, 0)) (kk_ BK467) hb); have n3_ := Aside0.mk (below_step (bs_ HB GE467.out) hb); clear BK467; clear HB; have HO474 := n0_; have HO477 := n1_; have BK467 := n2_; have HB := n3_; clear n0_ n1_ n2_ n3_; (try clear hb); (try clear hb2); (try clear hk); (try clear hi); (try clear ho0); (try clear ho1)))
        have n0_ := Aside0.mk (Kd.R_drew HO474.out)
        have n1_ := Aside0.mk (Kd.R_drew HO477.out)
        have n2_ := Aside0.mk (blk_drew BK467.out)
        have n3_ := Aside0.mk (below_drew1 HB.out)
        clear HO474
        clear HO477
        clear BK467
        clear HB
        have HO474 := n0_
        have HO477 := n1_
        have BK467 := n2_
        have HB := n3_
        clear n0_ n1_ n2_ n3_
        have q30 : (x13_17 : Int) ≤ ((l3.length : Int) : Int) := od_
        obtain ⟨i030, hi030, _, hsz30, _⟩ := info_parts info55
        have hroom30 : l3.length ≤ c3 := HC3.out
        have hC30 : Kd.C k55 _ A3 l3.length l3 := HR3.out
        have hcut30 := cut_to (P := Try.prog) 27 55 .i64 Try.underlying27 hi030 A3 l3.length c3 x13_17 (od_) q30 hroom30
        have hr30 := Kd.C_take (m := (x13_17 : Int).toNat) hC30 (by omega)
        have hy30 : y479.length = (x13_17 : Int).toNat := (by rw [Ny479.out, List.length_take]; omega)
        rw [← Ny479.out] at hr30
        rw [← hy30] at hcut30
        have HR482 := Aside0.mk hr30
        have HC482 := Aside0.mk (show y479.length ≤ c3 from by omega)
        clear hr30 hC30 hroom30 hi030 hsz30
        have KY30 := Aside0.mk hy30
        clear hy30
        replace q30 := eq_true q30
        refine start_ (n := 14) (S := fun w' => w'.cell? ⟨gb467, 0, none⟩ = some (.slice A0_0 l0_0.length c0_0) ∧ w'.cell? ⟨gb467, 1, none⟩ = some (.slice A0_1 l0_1.length c0_1)) (ds := []) #[n_, n_, n_, n_, n_, n_, n_, n_, n_, n_, n_, n_, n_, n_] (by kernel_rfl) rfl rfl ⟨(blk_cell BK467.out 0).trans rfl, (blk_cell BK467.out 1).trans rfl⟩ (fun hHeld => ?_); refine with_tabW cohousinglaw26_ChainLate.tab9 cohousinglaw26_ChainLate.bits9 (fun HT_ HW_ => ?_)
        generalize w28.drew = w29 at HO474 HO477 BK467 HB HR482 hHeld ⊢
        refine pu_ 1 67 (w_ 14 2) rfl HT_ ?_
        refine pu_ 2 68 (w_ 14 6) rfl HT_ ?_
        refine pu_ 3 69 (w_ 14 14) rfl HT_ ?_
        refine pu_ 4 70 (w_ 14 30) rfl HT_ ?_
        refine pu_ 5 71 (w_ 14 62) rfl HT_ ?_
        refine ta_ 0 66 (w_ 14 63) rfl HT_ HW_ hHeld (by rintro w' ⟨s0, s1⟩; go_simp; with_reducible rfl) ?_
        refine one_ (i := 6) (N := some 72) (w_ 14 127) rfl rfl (one_of HT_.out (by kernel_rfl)) (by decide) (fun K hK => ?_)
        refine goes_ Try.func13 (by kernel_rfl) rfl #[.agg #[.slice A0_0 l0_0.length c0_0, .slice A0_1 l0_1.length c0_1], .slice A1 l1.length c1, .int .i64 t470, .slice A3 y479.length c3] (by rfl) rfl rfl (by (try simp only [List.map_toArray, List.map_cons, List.map_nil]); first | done | rfl | (simp only [List.length_drop, List.length_take]; rfl)) ?_
        with_reducible refine (chain_Run.calls _ _ l0_0 _ _ l0_1 _ _ l1 t470 _ _ y479 t483 t486 t489 _ ?side1 ?side2 ?side3 ?side4 ?side5 ?side6 ?side7 ?side8 A25.out).mono ?_
        (case side1 => exact cc_ ((Kd.C_below HR0_0.out HB.out)))
        (case side2 => exact HC0_0.out)
        (case side3 => exact cc_ ((Kd.C_below HR0_1.out HB.out)))
        (case side4 => exact HC0_1.out)
        (case side5 => exact cc_ ((Kd.C_below HR1.out HB.out)))
        (case side6 => exact HC1.out)
        (case side7 => exact cc_ ((Kd.C_below HR482.out HB.out)))
        (case side8 => exact HC482.out)
        rintro e w31 ⟨v484, v487, rfl, ho0, ho1, hb⟩
        refine ⟨_, rfl, ?_⟩
        have n0_ := Aside0.mk (Kd.R_elder' (rr_ HO474) (Kd.R_base ho0) hb)
        have n1_ := Aside0.mk (Kd.R_elder' (rr_ HO477) (Kd.R_base ho1) hb)
        have n2_ := Aside0.mk (Kd.R_lower (Kd.R_new' ho0 (Kd.R_lt (rr_ HO474))) (below_size (bs_ HB GE467.out)))
        have n3_ := Aside0.mk (Kd.R_lower (Kd.R_new' ho1 (Kd.R_lt (rr_ HO477))) (below_size (bs_ HB GE467.out)))
        have n4_ := Aside0.mk (blk_below (g := gb467) (o := .cells #[.slice A0_0 l0_0.length c0_0, .slice A0_1 l0_1.length c0_1] 25 (0, 0)) (kk_ BK467) hb)
        have n5_ := Aside0.mk (below_step (bs_ HB GE467.out) hb)
        clear HO474
        clear HO477
        clear BK467
        clear HB
        have HO474 := n0_
        have HO477 := n1_
        have HO485 := n2_
        have HO488 := n3_
        have BK467 := n4_
        have HB := n5_
        clear n0_ n1_ n2_ n3_ n4_ n5_
        (try clear hb)
        (try clear hb2)
        (try clear hk)
        (try clear hi)
        (try clear ho0)
        (try clear ho1)
        refine hK.out _ _ ⟨(blk_cell BK467.out 0).trans rfl, (blk_cell BK467.out 1).trans rfl⟩ (fun hHeld => ?_)
        clear hK K
        refine norm_ (a' := ?_) ?_ ?_
        rotate_left
        ·show Act.put _ (some 72) _ = _
         simp only [Act.put, sI_, s0_, sS_, i64_w, i32_w]
         rfl
        refine pu_ 7 65 (w_ 14 255) rfl HT_ ?_
        refine pu_ 8 73 (w_ 14 511) rfl HT_ ?_
        refine pu_ 9 74 (w_ 14 1023) rfl HT_ ?_
        refine pu_ 10 75 (w_ 14 2047) rfl HT_ ?_
        refine pu_ 11 17 (w_ 14 4095) rfl HT_ ?_
        refine pu_ 12 18 (w_ 14 8191) rfl HT_ ?_
        refine pu_ 13 19 (w_ 14 16383) rfl HT_ ?_
        refine done_ (done_of HT_.out (by kernel_rfl)) ?_
        go_upto_region 10 with (fail)
        go_cut [93] (fun v93 wc => ∃ (kq : Nat) (x93_25 : Bool), v93 = .bool x93_25 ∧ Aside0 (cohousinglaw26_ChainLate.j3 kq l1 l3 a4 t468 t470 x13_17 x93_25 l0_0 l0_1 = some r) ∧ Aside0 (kq ≤ kj17) ∧ Aside0 (wc.heap[gb467]? = some (.cells #[(.slice A0_0 l0_0.length c0_0), (.slice A0_1 l0_1.length c0_1)] 25 (0, 0))) ∧ Aside0 (Below w.heap.size w wc))
        case first =>
         have H := HC26.out
         clear HC26
         by_cases c32 : t478 = 0
         ·rw [if_pos c32] at H
          have c32b0 : (t478 == 0) = true := beq_iff_eq.mpr c32
          have c32b1 : (t478 != 0) = false := bne_eq_false_iff_eq.mpr c32
          clear c32
          (first | rw [c32b0] | (simp only [i64_w, i32_w]; rw [c32b0]) | skip)
          by_cases c33 : t489 = 0
          ·rw [if_pos c33] at H
           have c33b0 : (t489 == 0) = true := beq_iff_eq.mpr c33
           have c33b1 : (t489 != 0) = false := bne_eq_false_iff_eq.mpr c33
           clear c33
           replace H := Option.bind_eq_some_iff.mp H
           obtain ⟨t490, A340, H⟩ := H
           replace H : (if t490 = true then ((cohousingref23_SameInts.f kj17 t475 t486).bind fun t491 => (cohousinglaw26_ChainLate.j3 kj17 l1 l3 a4 t468 t470 x13_17 (!t491) l0_0 l0_1)) else (cohousinglaw26_ChainLate.j3 kj17 l1 l3 a4 t468 t470 x13_17 true l0_0 l0_1)) = some r := H
           have A34 := Aside0.mk A340
           clear A340
           by_cases c35 : t490 = true
           ·subst c35
            have H1 : ((cohousingref23_SameInts.f kj17 t475 t486).bind fun t491 => (cohousinglaw26_ChainLate.j3 kj17 l1 l3 a4 t468 t470 x13_17 (!t491) l0_0 l0_1)) = some r := by rw [if_pos rfl] at H; exact H
            clear H
            have H := H1
            clear H1
            replace H := Option.bind_eq_some_iff.mp H
            obtain ⟨t491, A360, H⟩ := H
            replace H : (cohousinglaw26_ChainLate.j3 kj17 l1 l3 a4 t468 t470 x13_17 (!t491) l0_0 l0_1) = some r := H
            have A36 := Aside0.mk A360
            clear A360
            have H' := Aside0.mk H
            clear H
            obtain ⟨Ao37, co37, eo37⟩ := Kd.R_slice HO474.out
            subst eo37
            obtain ⟨Ao38, co38, eo38⟩ := Kd.R_slice HO485.out
            subst eo38
            go_wp2_with (first | (go_at_call 17; (with_reducible refine (cohousingref26_SameMoves.calls kj17 _ _ t472 _ _ t483 true _ ?side1 ?side2 ?side3 ?side4 A34.out).mono ?_); (case side1 => exact cc_ ((Kd.R_reads' HO474.out).2.2)); (case side2 => exact (Kd.R_reads' HO474.out).2.1); (case side3 => exact cc_ ((Kd.R_reads' HO485.out).2.2)); (case side4 => exact (Kd.R_reads' HO485.out).2.1); rintro e w' ⟨rfl, ⟨nd, rfl⟩⟩; obtain ⟨Ao39, co39, eo39⟩ := Kd.R_slice HO477.out; subst eo39; obtain ⟨Ao40, co40, eo40⟩ := Kd.R_slice HO488.out; subst eo40) | (go_at_call 18; (with_reducible refine (cohousingref23_SameInts.calls kj17 _ _ t475 _ _ t486 t491 _ ?side1 ?side2 ?side3 ?side4 A36.out).mono ?_); (case side1 => exact cc_ ((Kd.R_reads' HO477.out).2.2)); (case side2 => exact (Kd.R_reads' HO477.out).2.1); (case side3 => exact cc_ ((Kd.R_reads' HO488.out).2.2)); (case side4 => exact (Kd.R_reads' HO488.out).2.1); rintro e w' ⟨rfl, ⟨nd, rfl⟩⟩))
            go_meet
            case rel => exact ⟨_, (!t491), sd_, H', ⟨by have := HJ6.out; have := HJ17.out; first | omega | exact Nat.le_refl _⟩, ⟨by (with_reducible repeat (first | refine blk_drewN ?_ _ | refine blk_drew ?_ | refine blk_alloc ?_ _)); exact BK467.out⟩, ⟨by repeat (first | (with_reducible first | exact HB.out | apply below_alloc | apply pw_below_drewN | apply below_drew1 | refine below_set ?_ GE467.out) | exact HB.out)⟩⟩
           ·replace c35 := Bool.eq_false_iff.mpr c35
            subst c35
            have H1 : (cohousinglaw26_ChainLate.j3 kj17 l1 l3 a4 t468 t470 x13_17 true l0_0 l0_1) = some r := by rw [if_neg (show ¬ (false = true) by decide)] at H; exact H
            clear H
            have H := H1
            clear H1
            have H' := Aside0.mk H
            clear H
            obtain ⟨Ao41, co41, eo41⟩ := Kd.R_slice HO474.out
            subst eo41
            obtain ⟨Ao42, co42, eo42⟩ := Kd.R_slice HO485.out
            subst eo42
            go_wp2_with (first | (go_at_call 17; (with_reducible refine (cohousingref26_SameMoves.calls kj17 _ _ t472 _ _ t483 false _ ?side1 ?side2 ?side3 ?side4 A34.out).mono ?_); (case side1 => exact cc_ ((Kd.R_reads' HO474.out).2.2)); (case side2 => exact (Kd.R_reads' HO474.out).2.1); (case side3 => exact cc_ ((Kd.R_reads' HO485.out).2.2)); (case side4 => exact (Kd.R_reads' HO485.out).2.1); rintro e w' ⟨rfl, ⟨nd, rfl⟩⟩))
            go_meet
            case rel => exact ⟨_, (true), sd_, H', ⟨by have := HJ6.out; have := HJ17.out; first | omega | exact Nat.le_refl _⟩, ⟨by (with_reducible repeat (first | refine blk_drewN ?_ _ | refine blk_drew ?_ | refine blk_alloc ?_ _)); exact BK467.out⟩, ⟨by repeat (first | (with_reducible first | exact HB.out | apply below_alloc | apply pw_below_drewN | apply below_drew1 | refine below_set ?_ GE467.out) | exact HB.out)⟩⟩
          ·rw [if_neg c33] at H
           have c33b0 : (t489 == 0) = false := beq_eq_false_iff_ne.mpr c33
           have c33b1 : (t489 != 0) = true := bne_iff_ne.mpr c33
           have H' := Aside0.mk H
           clear H
           go_wp2
           go_meet
           case rel => exact ⟨_, (true), sd_, H', ⟨by have := HJ6.out; have := HJ17.out; first | omega | exact Nat.le_refl _⟩, ⟨by (with_reducible repeat (first | refine blk_drewN ?_ _ | refine blk_drew ?_ | refine blk_alloc ?_ _)); exact BK467.out⟩, ⟨by repeat (first | (with_reducible first | exact HB.out | apply below_alloc | apply pw_below_drewN | apply below_drew1 | refine below_set ?_ GE467.out) | exact HB.out)⟩⟩
         ·rw [if_neg c32] at H
          have c32b0 : (t478 == 0) = false := beq_eq_false_iff_ne.mpr c32
          have c32b1 : (t478 != 0) = true := bne_iff_ne.mpr c32
          (first | rw [c32b0] | (simp only [i64_w, i32_w]; rw [c32b0]) | skip)
          have H' := Aside0.mk H
          clear H
          go_wp2
          go_meet
          case rel => exact ⟨_, (true), sd_, H', ⟨by have := HJ6.out; have := HJ17.out; first | omega | exact Nat.le_refl _⟩, ⟨by (with_reducible repeat (first | refine blk_drewN ?_ _ | refine blk_drew ?_ | refine blk_alloc ?_ _)); exact BK467.out⟩, ⟨by repeat (first | (with_reducible first | exact HB.out | apply below_alloc | apply pw_below_drewN | apply below_drew1 | refine below_set ?_ GE467.out) | exact HB.out)⟩⟩
        case rest =>
         clear HC26
         try clear c1
         try clear c2
         try clear p2
         try clear c3
         try clear q3
         try clear p4
         try clear q4
         try clear hx4
         try clear p6
         try clear c7
         try clear c10
         try clear c11
         try clear c13
         try clear c16
         try clear c19
         try clear c19b0
         try clear c20
         try clear c20b0
         try clear c21
         try clear c21b0
         try clear c23
         try clear c23b0
         try clear c23b1
         try clear c24
         try clear c24b0
         try clear c24b1
         try clear q30
         try clear c32
         try clear c32b0
         try clear c32b1
         try clear c33
         try clear c33b0
         try clear c33b1
         try clear c35
         try clear hcz12_0
         try clear hcz12_1
         try clear hcz14_0
         try clear hcz14_1
         try clear hcz27_0
         try clear hcz27_1
         try clear hfz12_0
         try clear hfz12_1
         try clear hfz14_0
         try clear hfz14_1
         try clear hfz27_0
         try clear hfz27_1
         try clear hx471_0
         try clear hx471_1
         try clear hx471_2
         try clear p2
         try clear p4
         try clear p471
         try clear p6
         try clear q30
         try clear q4
         try clear q471
         obtain ⟨kq, x93_25, rfl, HA, HJ25, BK467, HB⟩ := hcut
         cases kq with
         | zero => exact absurd HA.out (by simp [cohousinglaw26_ChainLate.j3])
         | succ kj25 =>
          have H := HA.out
          clear HA
          simp only [cohousinglaw26_ChainLate.j3] at H
          by_cases c43 : x93_25 = true
          ·subst c43
           have H1 : (some false) = some r := by rw [if_pos rfl] at H; exact H
           clear H
           have H := H1
           clear H1
           obtain rfl := Option.some.inj H
           go_wp2
           go_ret
           exact ⟨ew_, by repeat (first | (with_reducible first | exact HB.out | apply below_alloc | apply pw_below_drewN | apply below_drew1 | refine below_set ?_ GE467.out) | exact HB.out)⟩
          ·replace c43 := Bool.eq_false_iff.mpr c43
           subst c43
           have H1 : (if (l1.length : Int) = 0 then (some t468) else (if 0 ≤ (Int.tmod (wrap64 (a4)) (l1.length : Int)) then (if (Int.tmod (wrap64 (a4)) (l1.length : Int)) < (l1.length : Int) then (if 0 < (((rd_T49 l1 (Int.tmod (wrap64 (a4)) (l1.length : Int))).f1).length : Int) then (cohousinglaw26_ChainLate.l1 kj25 l1 l3 a4 t468 t470 x13_17 0 l0_0 l0_1 ((rd_T51 ((rd_T49 l1 (Int.tmod (wrap64 (a4)) (l1.length : Int))).f1) 0).f0) ((rd_T51 ((rd_T49 l1 (Int.tmod (wrap64 (a4)) (l1.length : Int))).f1) 0).f1) ((rd_T51 ((rd_T49 l1 (Int.tmod (wrap64 (a4)) (l1.length : Int))).f1) 0).f2)) else (none)) else (none)) else (none))) = some r := by rw [if_neg (show ¬ (false = true) by decide)] at H; exact H
           clear H
           have H := H1
           clear H1
           by_cases c44 : (l1.length : Int) = 0
           ·rw [if_pos c44] at H
            have c44b0 : ((l1.length : Int) == 0) = true := beq_iff_eq.mpr c44
            have c44b1 : ((l1.length : Int) != 0) = false := bne_eq_false_iff_eq.mpr c44
            clear c44
            obtain rfl := Option.some.inj H
            go_wp2
            go_ret
            exact ⟨ew_, by repeat (first | (with_reducible first | exact HB.out | apply below_alloc | apply pw_below_drewN | apply below_drew1 | refine below_set ?_ GE467.out) | exact HB.out)⟩
           ·rw [if_neg c44] at H
            have c44b0 : ((l1.length : Int) == 0) = false := beq_eq_false_iff_ne.mpr c44
            have c44b1 : ((l1.length : Int) != 0) = true := bne_iff_ne.mpr c44
            have c44b2 : ¬ (l1 = []) := fun h_ => c44 (by rw [h_]; rfl)
            obtain ⟨ji45, hji45⟩ : ∃ j_ : Int, (Int.tmod (wrap64 (a4)) (l1.length : Int)) = j_ := ⟨_, rfl⟩
            replace H : (if 0 ≤ (ji45) then (if (ji45) < (l1.length : Int) then (if 0 < (((rd_T49 l1 (ji45)).f1).length : Int) then (cohousinglaw26_ChainLate.l1 kj25 l1 l3 a4 t468 t470 x13_17 0 l0_0 l0_1 ((rd_T51 ((rd_T49 l1 (ji45)).f1) 0).f0) ((rd_T51 ((rd_T49 l1 (ji45)).f1) 0).f1) ((rd_T51 ((rd_T49 l1 (ji45)).f1) 0).f2)) else (none)) else (none)) else (none)) = some r := by first | (rw [hji45] at H; exact H) | (simp only [hji45] at H ⊢; exact H)
            by_cases c46 : 0 ≤ (ji45)
            ·rw [if_pos c46] at H
             have c46b0 : decide (0 ≤ (ji45)) = true := decide_eq_true c46
             clear c46
             by_cases c47 : (ji45) < (l1.length : Int)
             ·rw [if_pos c47] at H
              have c47b0 : decide ((ji45) < (l1.length : Int)) = true := decide_eq_true c47
              clear c47
              by_cases c48 : 0 < (((rd_T49 l1 (ji45)).f1).length : Int)
              ·rw [if_pos c48] at H
               have c48b0 : decide (0 < (((rd_T49 l1 (ji45)).f1).length : Int)) = true := decide_eq_true c48
               have c48b1 : decide (0 < ((rd_T49 l1 (ji45)).f1).length) = true := decide_eq_true (by omega)
               clear c48
               have H' := Aside0.mk H
               clear H
               have p492 : 0 ≤ ((ji45) : Int) := od_
               have q492 : (ji45) < (l1.length : Int) := od_
               obtain ⟨ad492, A492_1, c492_1, e492, hx492_0, hx492_1, hl492_1, hi492_1⟩ := at_T49 HR1.out (ji45) p492 q492
               cases e492
               replace hx492_0 := (HB.out.cell (World.block_lt_of_cell? w _ hx492_0)).trans hx492_0
               replace hx492_1 := (HB.out.cell (World.block_lt_of_cell? w _ hx492_1)).trans hx492_1
               have HR492_1 := Aside0.mk hi492_1
               have HC492_1 := Aside0.mk hl492_1
               clear hi492_1 hl492_1
               replace p492 := eq_true p492
               replace q492 := eq_true q492
               have p493 : 0 ≤ (0 : Int) := (by omega)
               have q493 : 0 < (((rd_T49 l1 (ji45)).f1).length : Int) := od_
               obtain ⟨ad493, e493, hx493_0, hx493_1, hx493_2⟩ := at_T51 HR492_1.out 0 p493 q493
               cases e493
               have qi493 : (0 < ((rd_T49 l1 (ji45)).f1).length) = True := eq_true (by omega)
               (try rw [show ((0 : Int)).toNat = 0 from rfl] at hx493_0)
               (try rw [show 0 * 3 = 0 from rfl] at hx493_0)
               (try rw [Addr.add_zero'] at hx493_0)
               (try rw [show ((0 : Int)).toNat = 0 from rfl] at hx493_1)
               (try rw [show 0 * 3 = 0 from rfl] at hx493_1)
               (try rw [Addr.add_zero'] at hx493_1)
               (try rw [show ((0 : Int)).toNat = 0 from rfl] at hx493_2)
               (try rw [show 0 * 3 = 0 from rfl] at hx493_2)
               (try rw [Addr.add_zero'] at hx493_2)
               replace hx493_0 := (HB.out.cell (World.block_lt_of_cell? w _ hx493_0)).trans hx493_0
               replace hx493_1 := (HB.out.cell (World.block_lt_of_cell? w _ hx493_1)).trans hx493_1
               replace hx493_2 := (HB.out.cell (World.block_lt_of_cell? w _ hx493_2)).trans hx493_2
               replace p493 := eq_true p493
               replace q493 := eq_true q493
               go_wp2_with (first | ((with_reducible refine gate_dst (N := 20) rfl ?_); (try (refine gate_guard (by rfl) ?_; dsimp only)); refine box_event ?hg (N := 20) ?hd (cs := #[.int .i64 0, .int .i64 0, .int .i64 0]) (t := 51) ?hr ?_; (case hd => rfl); (case hg => rfl); (case hr => first | (go_simp; done) | (go_simp; rfl)); intro gb494 hg w49 hbox hb; have n0_ := Aside0.mk (blk_below (g := gb467) (o := .cells #[.slice A0_0 l0_0.length c0_0, .slice A0_1 l0_1.length c0_1] 25 (0, 0)) (kk_ BK467) hb); have n1_ := Aside0.mk (below_step (bs_ HB GE467.out) hb); have n2_ := Aside0.mk (hbox); have n3_ := Aside0.mk ((by rw [hg]; exact (below_size (bs_ HB GE467.out)) : w.heap.size ≤ gb494)); have n4_ := Aside0.mk ((by rw [hg]; exact (below_size (bs_ HB GE467.out)) : w.heap.size ≤ gb494)); have n5_ := Aside0.mk ((by rw [hg]; exact Nat.ne_of_lt (blk_lt (g := gb467) (o := .cells #[.slice A0_0 l0_0.length c0_0, .slice A0_1 l0_1.length c0_1] 25 (0, 0)) (kk_ BK467)) : gb467 ≠ gb494)); have n6_ := Aside0.mk ((by rw [hg]; exact Nat.ne_of_gt (blk_lt (g := gb467) (o := .cells #[.slice A0_0 l0_0.length c0_0, .slice A0_1 l0_1.length c0_1] 25 (0, 0)) (kk_ BK467)) : gb494 ≠ gb467)); clear BK467; clear HB; have BK467 := n0_; have HB := n1_; have BK494 := n2_; have GW494 := n3_; have GE494 := n4_; have NB467_494 := n5_; have NB494_467 := n6_; clear n0_ n1_ n2_ n3_ n4_ n5_ n6_; clear hb hbox hg; have hnb50 := NB494_467.out; have hnc50 := NB467_494.out; have hcz51_0 : w49.cell? ⟨gb494, 0, none⟩ = some (.int .i64 0) := (blk_cell BK494.out 0).trans rfl; have hcz51_1 : w49.cell? ⟨gb494, 1, none⟩ = some (.int .i64 0) := (blk_cell BK494.out 1).trans rfl; have hcz51_2 : w49.cell? ⟨gb494, 2, none⟩ = some (.int .i64 0) := (blk_cell BK494.out 2).trans rfl; have hfz51_0 := blk_frozen BK494.out 0; have hfz51_1 := blk_frozen BK494.out 1; have hfz51_2 := blk_frozen BK494.out 2))
               go_loopg [21] kj25 (fun kq v21 w' => ∃ (x21_4 : Int), v21 = .int .i64 x21_4 ∧ Aside0 (cohousinglaw26_ChainLate.l1 kq l1 l3 a4 t468 t470 x13_17 x21_4 l0_0 l0_1 ((rd_T51 ((rd_T49 l1 (ji45)).f1) 0).f0) ((rd_T51 ((rd_T49 l1 (ji45)).f1) 0).f1) ((rd_T51 ((rd_T49 l1 (ji45)).f1) 0).f2) = some r) ∧ Aside0 (kq ≤ kj25) ∧ Aside0 (w'.heap[gb467]? = some (.cells #[(.slice A0_0 l0_0.length c0_0), (.slice A0_1 l0_1.length c0_1)] 25 (0, 0))) ∧ Aside0 (w'.heap[gb494]? = some (.cells #[.int .i64 ((rd_T51 ((rd_T49 l1 (ji45)).f1) 0).f0), .int .i64 ((rd_T51 ((rd_T49 l1 (ji45)).f1) 0).f1), .int .i64 ((rd_T51 ((rd_T49 l1 (ji45)).f1) 0).f2)] 51 (0, 0))) ∧ Aside0 (Below w.heap.size w w'))
               case atStart => exact ⟨(0), sd_, H', ⟨Nat.le_refl _⟩, ⟨by (with_reducible repeat (first | refine blk_drewN ?_ _ | refine blk_drew ?_ | refine blk_alloc ?_ _)); refine blk_far ?_ NB467_494.out _; (with_reducible repeat (first | refine blk_drewN ?_ _ | refine blk_drew ?_ | refine blk_alloc ?_ _)); refine blk_far ?_ NB467_494.out _; (with_reducible repeat (first | refine blk_drewN ?_ _ | refine blk_drew ?_ | refine blk_alloc ?_ _)); refine blk_far ?_ NB467_494.out _; (with_reducible repeat (first | refine blk_drewN ?_ _ | refine blk_drew ?_ | refine blk_alloc ?_ _)); exact BK467.out⟩, ⟨by (with_reducible repeat (first | refine blk_drewN ?_ _ | refine blk_drew ?_ | refine blk_alloc ?_ _)); refine blk_put (cs := #[.int .i64 ((rd_T51 ((rd_T49 l1 (ji45)).f1) 0).f0), .int .i64 ((rd_T51 ((rd_T49 l1 (ji45)).f1) 0).f1), .int .i64 0]) ?_ 2 _ rfl; (with_reducible repeat (first | refine blk_drewN ?_ _ | refine blk_drew ?_ | refine blk_alloc ?_ _)); refine blk_put (cs := #[.int .i64 ((rd_T51 ((rd_T49 l1 (ji45)).f1) 0).f0), .int .i64 0, .int .i64 0]) ?_ 1 _ rfl; (with_reducible repeat (first | refine blk_drewN ?_ _ | refine blk_drew ?_ | refine blk_alloc ?_ _)); refine blk_put (cs := #[.int .i64 0, .int .i64 0, .int .i64 0]) ?_ 0 _ rfl; (with_reducible repeat (first | refine blk_drewN ?_ _ | refine blk_drew ?_ | refine blk_alloc ?_ _)); exact BK494.out⟩, ⟨by repeat (first | (with_reducible first | exact HB.out | apply below_alloc | apply pw_below_drewN | apply below_drew1 | refine below_set ?_ GE467.out | refine below_set ?_ GE494.out) | exact HB.out)⟩⟩
               case round =>
                clear H'
                try clear c1
                try clear c2
                try clear p2
                try clear c3
                try clear q3
                try clear c4
                try clear p4
                try clear q4
                try clear hx4
                try clear qi4
                try clear c5
                try clear p6
                try clear c7
                try clear c10
                try clear c11
                try clear c13
                try clear c16
                try clear c19
                try clear c19b0
                try clear c20
                try clear c20b0
                try clear c21
                try clear c21b0
                try clear c23
                try clear c23b0
                try clear c23b1
                try clear c24
                try clear c24b0
                try clear c24b1
                try clear q30
                try clear c32
                try clear c32b0
                try clear c32b1
                try clear c33
                try clear c33b0
                try clear c33b1
                try clear c35
                try clear c43
                try clear c44
                try clear c44b0
                try clear c44b1
                try clear c44b2
                try clear c46
                try clear c46b0
                try clear c47
                try clear c47b0
                try clear p47
                try clear q47
                try clear hx47
                try clear c48
                try clear c48b0
                try clear c48b1
                try clear c49
                try clear p49
                try clear q49
                try clear hx49
                try clear qi49
                try clear c50
                try clear hcz12_0
                try clear hcz12_1
                try clear hcz14_0
                try clear hcz14_1
                try clear hcz27_0
                try clear hcz27_1
                try clear hcz51_0
                try clear hcz51_1
                try clear hcz51_2
                try clear hfz12_0
                try clear hfz12_1
                try clear hfz14_0
                try clear hfz14_1
                try clear hfz27_0
                try clear hfz27_1
                try clear hfz51_0
                try clear hfz51_1
                try clear hfz51_2
                try clear hx471_0
                try clear hx471_1
                try clear hx471_2
                try clear hx492_0
                try clear hx492_1
                try clear hx493_0
                try clear hx493_1
                try clear hx493_2
                try clear p2
                try clear p4
                try clear p471
                try clear p492
                try clear p493
                try clear p6
                try clear q3
                try clear q30
                try clear q4
                try clear q471
                try clear q492
                try clear q493
                obtain ⟨x21_4, rfl, HA, HK4, BK467, BK494, HB⟩ := hrel
                cases gk with
                | zero => exact absurd HA.out (by simp [cohousinglaw26_ChainLate.l1])
                | succ k4 =>
                 have H := HA.out
                 clear HA
                 simp only [cohousinglaw26_ChainLate.l1] at H
                 by_cases c52 : x21_4 < x13_17
                 ·rw [if_pos c52] at H
                  have c52b0 : decide (x21_4 < x13_17) = true := decide_eq_true c52
                  clear c52
                  by_cases c53 : 0 ≤ x21_4
                  ·rw [if_pos c53] at H
                   have c53b0 : decide (0 ≤ x21_4) = true := decide_eq_true c53
                   clear c53
                   by_cases c54 : x21_4 < (l3.length : Int)
                   ·rw [if_pos c54] at H
                    have c54b0 : decide (x21_4 < (l3.length : Int)) = true := decide_eq_true c54
                    clear c54
                    by_cases c55 : ((rd_T55 l3 x21_4).f1) = ((rd_T51 ((rd_T49 l1 (ji45)).f1) 0).f0)
                    ·rw [if_pos c55] at H
                     have c55b0 : (((rd_T55 l3 x21_4).f1) == ((rd_T51 ((rd_T49 l1 (ji45)).f1) 0).f0)) = true := beq_iff_eq.mpr c55
                     have c55b1 : (((rd_T55 l3 x21_4).f1) != ((rd_T51 ((rd_T49 l1 (ji45)).f1) 0).f0)) = false := bne_eq_false_iff_eq.mpr c55
                     clear c55
                     by_cases c56 : ((rd_T55 l3 x21_4).f0) = 3
                     ·rw [if_pos c56] at H
                      have c56b0 : (((rd_T55 l3 x21_4).f0) == 3) = true := beq_iff_eq.mpr c56
                      have c56b1 : (((rd_T55 l3 x21_4).f0) != 3) = false := bne_eq_false_iff_eq.mpr c56
                      clear c56
                      obtain rfl := Option.some.inj H
                      try go_wp2
                      have n0_ := Aside0.mk (blk_drew BK467.out)
                      have n1_ := Aside0.mk (blk_drew BK494.out)
                      have n2_ := Aside0.mk (below_drew1 HB.out)
                      clear BK467
                      clear BK494
                      clear HB
                      have BK467 := n0_
                      have BK494 := n1_
                      have HB := n2_
                      clear n0_ n1_ n2_
                      have p495 : 0 ≤ (x21_4 : Int) := od_
                      have q495 : x21_4 < (l3.length : Int) := od_
                      obtain ⟨ad495, e495, hx495_0, hx495_1, hx495_2⟩ := at_T55 HR3.out x21_4 p495 q495
                      have hw495_2 := hx495_2
                      have hw495_1 := hx495_1
                      have hw495_0 := hx495_0
                      cases e495
                      replace hx495_0 := (HB.out.cell (World.block_lt_of_cell? w _ hx495_0)).trans hx495_0
                      replace hx495_1 := (HB.out.cell (World.block_lt_of_cell? w _ hx495_1)).trans hx495_1
                      replace hx495_2 := (HB.out.cell (World.block_lt_of_cell? w _ hx495_2)).trans hx495_2
                      replace p495 := eq_true p495
                      replace q495 := eq_true q495
                      have p496 : 0 ≤ (x21_4 : Int) := od_
                      have q496 : x21_4 < (l3.length : Int) := od_
                      obtain ⟨ad496, e496, hx496_0, hx496_1, hx496_2⟩ := at_T55 HR3.out x21_4 p496 q496
                      have hw496_2 := hx496_2
                      have hw496_1 := hx496_1
                      have hw496_0 := hx496_0
                      obtain rfl : ad495 = ad496 := (by injection e496)
                      replace hx496_0 := (HB.out.cell (World.block_lt_of_cell? w _ hx496_0)).trans hx496_0
                      replace hx496_1 := (HB.out.cell (World.block_lt_of_cell? w _ hx496_1)).trans hx496_1
                      replace hx496_2 := (HB.out.cell (World.block_lt_of_cell? w _ hx496_2)).trans hx496_2
                      replace p496 := eq_true p496
                      replace q496 := eq_true q496
                      refine start_ (n := 16) (S := fun w' => w'.cell? ⟨gb494, 0, none⟩ = some (.int .i64 ((rd_T51 ((rd_T49 l1 (ji45)).f1) 0).f0)) ∧ w'.cell? ⟨gb494, 1, none⟩ = some (.int .i64 ((rd_T51 ((rd_T49 l1 (ji45)).f1) 0).f1)) ∧ w'.cell? ⟨gb494, 2, none⟩ = some (.int .i64 ((rd_T51 ((rd_T49 l1 (ji45)).f1) 0).f2)) ∧ w'.cell? (ad495.add ((x21_4).toNat * 3)) = some (.int .i64 ((rd_T55 l3 x21_4).f0)) ∧ w'.cell? ⟨(ad495.add ((x21_4).toNat * 3)).block, (ad495.add ((x21_4).toNat * 3)).off + 1, none⟩ = some (.int .i64 ((rd_T55 l3 x21_4).f1)) ∧ w'.cell? ⟨(ad495.add ((x21_4).toNat * 3)).block, (ad495.add ((x21_4).toNat * 3)).off + 2, none⟩ = some (.int .i64 ((rd_T55 l3 x21_4).f2)) ∧ w'.cell? (ad495.add ((x21_4).toNat * 3)) = some (.int .i64 ((rd_T55 l3 x21_4).f0)) ∧ w'.cell? ⟨(ad495.add ((x21_4).toNat * 3)).block, (ad495.add ((x21_4).toNat * 3)).off + 1, none⟩ = some (.int .i64 ((rd_T55 l3 x21_4).f1)) ∧ w'.cell? ⟨(ad495.add ((x21_4).toNat * 3)).block, (ad495.add ((x21_4).toNat * 3)).off + 2, none⟩ = some (.int .i64 ((rd_T55 l3 x21_4).f2))) (ds := []) #[n_, n_, n_, n_, n_, n_, n_, n_, n_, n_, n_, n_, n_, n_, n_, n_] (by kernel_rfl) rfl rfl ⟨(blk_cell BK494.out 0).trans rfl, (blk_cell BK494.out 1).trans rfl, (blk_cell BK494.out 2).trans rfl, ((HB.out.cell (World.block_lt_of_cell? w _ hw495_0)).trans hw495_0), ((HB.out.cell (World.block_lt_of_cell? w _ hw495_1)).trans hw495_1), ((HB.out.cell (World.block_lt_of_cell? w _ hw495_2)).trans hw495_2), ((HB.out.cell (World.block_lt_of_cell? w _ hw496_0)).trans hw496_0), ((HB.out.cell (World.block_lt_of_cell? w _ hw496_1)).trans hw496_1), ((HB.out.cell (World.block_lt_of_cell? w _ hw496_2)).trans hw496_2)⟩ (fun hHeld => ?_); refine with_tabW cohousinglaw26_ChainLate.tab18 cohousinglaw26_ChainLate.bits18 (fun HT_ HW_ => ?_)
                      generalize wr.drew = w57 at BK467 BK494 HB hx495_0 hx495_1 hx495_2 hx496_0 hx496_1 hx496_2 hHeld ⊢
                      refine pu_ 0 114 (w_ 16 1) rfl HT_ ?_
                      refine pu_ 1 115 (w_ 16 3) rfl HT_ ?_
                      refine pu_ 2 116 (w_ 16 7) rfl HT_ ?_
                      refine pu_ 3 117 (w_ 16 15) rfl HT_ ?_
                      refine pu_ 5 119 (w_ 16 47) rfl HT_ ?_
                      refine ta_ 4 118 (w_ 16 63) rfl HT_ HW_ hHeld (by rintro w' ⟨s0, s1, s2, s3, s4, s5, s6, s7, s8⟩; go_simp; with_reducible rfl) ?_
                      refine ta_ 6 120 (w_ 16 127) rfl HT_ HW_ hHeld (by rintro w' ⟨s0, s1, s2, s3, s4, s5, s6, s7, s8⟩; go_simp; with_reducible rfl) ?_
                      refine pu_ 7 121 (w_ 16 255) rfl HT_ ?_
                      refine pu_ 8 122 (w_ 16 511) rfl HT_ ?_
                      refine pu_ 9 123 (w_ 16 1023) rfl HT_ ?_
                      refine pu_ 10 124 (w_ 16 2047) rfl HT_ ?_
                      refine pu_ 11 125 (w_ 16 4095) rfl HT_ ?_
                      refine pu_ 12 126 (w_ 16 8191) rfl HT_ ?_
                      refine ta_ 13 127 (w_ 16 16383) rfl HT_ HW_ hHeld (by rintro w' ⟨s0, s1, s2, s3, s4, s5, s6, s7, s8⟩; go_simp; with_reducible rfl) ?_
                      refine pu_ 14 128 (w_ 16 32767) rfl HT_ ?_
                      refine pu_ 15 129 (w_ 16 65535) rfl HT_ ?_
                      refine done_ (done_of HT_.out (by kernel_rfl)) ?_
                      try go_wp2
                      go_ret
                      exact ⟨by first | rfl | (simp [errW_none, errW_some] <;> rfl) | (simp only [← hji45]; first | rfl | (simp [errW_none, errW_some] <;> rfl)) | (simp [*, errW_none, errW_some] <;> rfl), by repeat (first | (with_reducible first | exact HB.out | apply below_alloc | apply pw_below_drewN | apply below_drew1 | refine below_set ?_ GE467.out | refine below_set ?_ GE494.out) | exact HB.out)⟩
                     ·rw [if_neg c56] at H
                      have c56b0 : (((rd_T55 l3 x21_4).f0) == 3) = false := beq_eq_false_iff_ne.mpr c56
                      have c56b1 : (((rd_T55 l3 x21_4).f0) != 3) = true := bne_iff_ne.mpr c56
                      have H' := Aside0.mk H
                      clear H
                      try go_wp2
                      have n0_ := Aside0.mk (blk_drew BK467.out)
                      have n1_ := Aside0.mk (blk_drew BK494.out)
                      have n2_ := Aside0.mk (below_drew1 HB.out)
                      clear BK467
                      clear BK494
                      clear HB
                      have BK467 := n0_
                      have BK494 := n1_
                      have HB := n2_
                      clear n0_ n1_ n2_
                      have p495 : 0 ≤ (x21_4 : Int) := od_
                      have q495 : x21_4 < (l3.length : Int) := od_
                      obtain ⟨ad495, e495, hx495_0, hx495_1, hx495_2⟩ := at_T55 HR3.out x21_4 p495 q495
                      have hw495_2 := hx495_2
                      have hw495_1 := hx495_1
                      have hw495_0 := hx495_0
                      cases e495
                      replace hx495_0 := (HB.out.cell (World.block_lt_of_cell? w _ hx495_0)).trans hx495_0
                      replace hx495_1 := (HB.out.cell (World.block_lt_of_cell? w _ hx495_1)).trans hx495_1
                      replace hx495_2 := (HB.out.cell (World.block_lt_of_cell? w _ hx495_2)).trans hx495_2
                      replace p495 := eq_true p495
                      replace q495 := eq_true q495
                      have p496 : 0 ≤ (x21_4 : Int) := od_
                      have q496 : x21_4 < (l3.length : Int) := od_
                      obtain ⟨ad496, e496, hx496_0, hx496_1, hx496_2⟩ := at_T55 HR3.out x21_4 p496 q496
                      have hw496_2 := hx496_2
                      have hw496_1 := hx496_1
                      have hw496_0 := hx496_0
                      obtain rfl : ad495 = ad496 := (by injection e496)
                      replace hx496_0 := (HB.out.cell (World.block_lt_of_cell? w _ hx496_0)).trans hx496_0
                      replace hx496_1 := (HB.out.cell (World.block_lt_of_cell? w _ hx496_1)).trans hx496_1
                      replace hx496_2 := (HB.out.cell (World.block_lt_of_cell? w _ hx496_2)).trans hx496_2
                      replace p496 := eq_true p496
                      replace q496 := eq_true q496
                      refine start_ (n := 16) (S := fun w' => w'.cell? ⟨gb494, 0, none⟩ = some (.int .i64 ((rd_T51 ((rd_T49 l1 (ji45)).f1) 0).f0)) ∧ w'.cell? ⟨gb494, 1, none⟩ = some (.int .i64 ((rd_T51 ((rd_T49 l1 (ji45)).f1) 0).f1)) ∧ w'.cell? ⟨gb494, 2, none⟩ = some (.int .i64 ((rd_T51 ((rd_T49 l1 (ji45)).f1) 0).f2)) ∧ w'.cell? (ad495.add ((x21_4).toNat * 3)) = some (.int .i64 ((rd_T55 l3 x21_4).f0)) ∧ w'.cell? ⟨(ad495.add ((x21_4).toNat * 3)).block, (ad495.add ((x21_4).toNat * 3)).off + 1, none⟩ = some (.int .i64 ((rd_T55 l3 x21_4).f1)) ∧ w'.cell? ⟨(ad495.add ((x21_4).toNat * 3)).block, (ad495.add ((x21_4).toNat * 3)).off + 2, none⟩ = some (.int .i64 ((rd_T55 l3 x21_4).f2)) ∧ w'.cell? (ad495.add ((x21_4).toNat * 3)) = some (.int .i64 ((rd_T55 l3 x21_4).f0)) ∧ w'.cell? ⟨(ad495.add ((x21_4).toNat * 3)).block, (ad495.add ((x21_4).toNat * 3)).off + 1, none⟩ = some (.int .i64 ((rd_T55 l3 x21_4).f1)) ∧ w'.cell? ⟨(ad495.add ((x21_4).toNat * 3)).block, (ad495.add ((x21_4).toNat * 3)).off + 2, none⟩ = some (.int .i64 ((rd_T55 l3 x21_4).f2))) (ds := []) #[n_, n_, n_, n_, n_, n_, n_, n_, n_, n_, n_, n_, n_, n_, n_, n_] (by kernel_rfl) rfl rfl ⟨(blk_cell BK494.out 0).trans rfl, (blk_cell BK494.out 1).trans rfl, (blk_cell BK494.out 2).trans rfl, ((HB.out.cell (World.block_lt_of_cell? w _ hw495_0)).trans hw495_0), ((HB.out.cell (World.block_lt_of_cell? w _ hw495_1)).trans hw495_1), ((HB.out.cell (World.block_lt_of_cell? w _ hw495_2)).trans hw495_2), ((HB.out.cell (World.block_lt_of_cell? w _ hw496_0)).trans hw496_0), ((HB.out.cell (World.block_lt_of_cell? w _ hw496_1)).trans hw496_1), ((HB.out.cell (World.block_lt_of_cell? w _ hw496_2)).trans hw496_2)⟩ (fun hHeld => ?_); refine with_tabW cohousinglaw26_ChainLate.tab18 cohousinglaw26_ChainLate.bits18 (fun HT_ HW_ => ?_)
                      generalize wr.drew = w58 at BK467 BK494 HB hx495_0 hx495_1 hx495_2 hx496_0 hx496_1 hx496_2 hHeld ⊢
                      refine pu_ 0 114 (w_ 16 1) rfl HT_ ?_
                      refine pu_ 1 115 (w_ 16 3) rfl HT_ ?_
                      refine pu_ 2 116 (w_ 16 7) rfl HT_ ?_
                      refine pu_ 3 117 (w_ 16 15) rfl HT_ ?_
                      refine pu_ 5 119 (w_ 16 47) rfl HT_ ?_
                      refine ta_ 4 118 (w_ 16 63) rfl HT_ HW_ hHeld (by rintro w' ⟨s0, s1, s2, s3, s4, s5, s6, s7, s8⟩; go_simp; with_reducible rfl) ?_
                      refine ta_ 6 120 (w_ 16 127) rfl HT_ HW_ hHeld (by rintro w' ⟨s0, s1, s2, s3, s4, s5, s6, s7, s8⟩; go_simp; with_reducible rfl) ?_
                      refine pu_ 7 121 (w_ 16 255) rfl HT_ ?_
                      refine pu_ 8 122 (w_ 16 511) rfl HT_ ?_
                      refine pu_ 9 123 (w_ 16 1023) rfl HT_ ?_
                      refine pu_ 10 124 (w_ 16 2047) rfl HT_ ?_
                      refine pu_ 11 125 (w_ 16 4095) rfl HT_ ?_
                      refine pu_ 12 126 (w_ 16 8191) rfl HT_ ?_
                      refine ta_ 13 127 (w_ 16 16383) rfl HT_ HW_ hHeld (by rintro w' ⟨s0, s1, s2, s3, s4, s5, s6, s7, s8⟩; go_simp; with_reducible rfl) ?_
                      refine pu_ 14 128 (w_ 16 32767) rfl HT_ ?_
                      refine pu_ 15 129 (w_ 16 65535) rfl HT_ ?_
                      refine done_ (done_of HT_.out (by kernel_rfl)) ?_
                      try go_wp2
                      go_roundg k4
                      case measure => have := HJ6.out; have := HJ17.out; have := HJ25.out; have := HK4.out; omega
                      case rel => exact ⟨(wrap64 (x21_4 + 1)), sd_, H', ⟨by have := HJ6.out; have := HJ17.out; have := HJ25.out; have := HK4.out; omega⟩, ⟨by (with_reducible repeat (first | refine blk_drewN ?_ _ | refine blk_drew ?_ | refine blk_alloc ?_ _)); exact BK467.out⟩, ⟨by (with_reducible repeat (first | refine blk_drewN ?_ _ | refine blk_drew ?_ | refine blk_alloc ?_ _)); exact BK494.out⟩, ⟨by repeat (first | (with_reducible first | exact HB.out | apply below_alloc | apply pw_below_drewN | apply below_drew1 | refine below_set ?_ GE467.out | refine below_set ?_ GE494.out) | exact HB.out)⟩⟩
                    ·rw [if_neg c55] at H
                     have c55b0 : (((rd_T55 l3 x21_4).f1) == ((rd_T51 ((rd_T49 l1 (ji45)).f1) 0).f0)) = false := beq_eq_false_iff_ne.mpr c55
                     have c55b1 : (((rd_T55 l3 x21_4).f1) != ((rd_T51 ((rd_T49 l1 (ji45)).f1) 0).f0)) = true := bne_iff_ne.mpr c55
                     have H' := Aside0.mk H
                     clear H
                     try go_wp2
                     have n0_ := Aside0.mk (blk_drew BK467.out)
                     have n1_ := Aside0.mk (blk_drew BK494.out)
                     have n2_ := Aside0.mk (below_drew1 HB.out)
                     clear BK467
                     clear BK494
                     clear HB
                     have BK467 := n0_
                     have BK494 := n1_
                     have HB := n2_
                     clear n0_ n1_ n2_
                     have p495 : 0 ≤ (x21_4 : Int) := od_
                     have q495 : x21_4 < (l3.length : Int) := od_
                     obtain ⟨ad495, e495, hx495_0, hx495_1, hx495_2⟩ := at_T55 HR3.out x21_4 p495 q495
                     have hw495_2 := hx495_2
                     have hw495_1 := hx495_1
                     have hw495_0 := hx495_0
                     cases e495
                     replace hx495_0 := (HB.out.cell (World.block_lt_of_cell? w _ hx495_0)).trans hx495_0
                     replace hx495_1 := (HB.out.cell (World.block_lt_of_cell? w _ hx495_1)).trans hx495_1
                     replace hx495_2 := (HB.out.cell (World.block_lt_of_cell? w _ hx495_2)).trans hx495_2
                     replace p495 := eq_true p495
                     replace q495 := eq_true q495
                     refine start_ (n := 16) (S := fun w' => w'.cell? ⟨gb494, 0, none⟩ = some (.int .i64 ((rd_T51 ((rd_T49 l1 (ji45)).f1) 0).f0)) ∧ w'.cell? ⟨gb494, 1, none⟩ = some (.int .i64 ((rd_T51 ((rd_T49 l1 (ji45)).f1) 0).f1)) ∧ w'.cell? ⟨gb494, 2, none⟩ = some (.int .i64 ((rd_T51 ((rd_T49 l1 (ji45)).f1) 0).f2)) ∧ w'.cell? (ad495.add ((x21_4).toNat * 3)) = some (.int .i64 ((rd_T55 l3 x21_4).f0)) ∧ w'.cell? ⟨(ad495.add ((x21_4).toNat * 3)).block, (ad495.add ((x21_4).toNat * 3)).off + 1, none⟩ = some (.int .i64 ((rd_T55 l3 x21_4).f1)) ∧ w'.cell? ⟨(ad495.add ((x21_4).toNat * 3)).block, (ad495.add ((x21_4).toNat * 3)).off + 2, none⟩ = some (.int .i64 ((rd_T55 l3 x21_4).f2))) (ds := []) #[n_, n_, n_, n_, n_, n_, n_, n_, n_, n_, n_, n_, n_, n_, n_, n_] (by kernel_rfl) rfl rfl ⟨(blk_cell BK494.out 0).trans rfl, (blk_cell BK494.out 1).trans rfl, (blk_cell BK494.out 2).trans rfl, ((HB.out.cell (World.block_lt_of_cell? w _ hw495_0)).trans hw495_0), ((HB.out.cell (World.block_lt_of_cell? w _ hw495_1)).trans hw495_1), ((HB.out.cell (World.block_lt_of_cell? w _ hw495_2)).trans hw495_2)⟩ (fun hHeld => ?_); refine with_tabW cohousinglaw26_ChainLate.tab18 cohousinglaw26_ChainLate.bits18 (fun HT_ HW_ => ?_)
                     generalize wr.drew = w59 at BK467 BK494 HB hx495_0 hx495_1 hx495_2 hHeld ⊢
                     refine pu_ 0 114 (w_ 16 1) rfl HT_ ?_
                     refine pu_ 1 115 (w_ 16 3) rfl HT_ ?_
                     refine pu_ 2 116 (w_ 16 7) rfl HT_ ?_
                     refine pu_ 3 117 (w_ 16 15) rfl HT_ ?_
                     refine pu_ 5 119 (w_ 16 47) rfl HT_ ?_
                     refine ta_ 4 118 (w_ 16 63) rfl HT_ HW_ hHeld (by rintro w' ⟨s0, s1, s2, s3, s4, s5⟩; go_simp; with_reducible rfl) ?_
                     refine ta_ 6 120 (w_ 16 127) rfl HT_ HW_ hHeld (by rintro w' ⟨s0, s1, s2, s3, s4, s5⟩; go_simp; with_reducible rfl) ?_
                     refine pu_ 7 121 (w_ 16 255) rfl HT_ ?_
                     refine pu_ 8 122 (w_ 16 511) rfl HT_ ?_
                     refine pn_ 9 123 (w_ 16 1023) rfl HT_ ?_
                     refine pn_ 10 124 (w_ 16 2047) rfl HT_ ?_
                     refine pn_ 11 125 (w_ 16 4095) rfl HT_ ?_
                     refine pn_ 12 126 (w_ 16 8191) rfl HT_ ?_
                     refine pn_ 13 127 (w_ 16 16383) rfl HT_ ?_
                     refine pn_ 14 128 (w_ 16 32767) rfl HT_ ?_
                     refine pu_ 15 129 (w_ 16 65535) rfl HT_ ?_
                     refine done_ (done_of HT_.out (by kernel_rfl)) ?_
                     try go_wp2
                     go_roundg k4
                     case measure => have := HJ6.out; have := HJ17.out; have := HJ25.out; have := HK4.out; omega
                     case rel => exact ⟨(wrap64 (x21_4 + 1)), sd_, H', ⟨by have := HJ6.out; have := HJ17.out; have := HJ25.out; have := HK4.out; omega⟩, ⟨by (with_reducible repeat (first | refine blk_drewN ?_ _ | refine blk_drew ?_ | refine blk_alloc ?_ _)); exact BK467.out⟩, ⟨by (with_reducible repeat (first | refine blk_drewN ?_ _ | refine blk_drew ?_ | refine blk_alloc ?_ _)); exact BK494.out⟩, ⟨by repeat (first | (with_reducible first | exact HB.out | apply below_alloc | apply pw_below_drewN | apply below_drew1 | refine below_set ?_ GE467.out | refine below_set ?_ GE494.out) | exact HB.out)⟩⟩
                   ·rw [if_neg c54] at H
                    exact absurd H (by simp)
                  ·rw [if_neg c53] at H
                   exact absurd H (by simp)
                 ·rw [if_neg c52] at H
                  have c52b0 : decide (x21_4 < x13_17) = false := decide_eq_false c52
                  clear c52
                  obtain ⟨y497, hy497⟩ : ∃ y_ : List (S55), y_ = (([] : List (S55))) := ⟨_, rfl⟩
                  replace H : (if 0 ≤ x13_17 then (if x13_17 ≤ (l3.length : Int) then ((some (l3.take (x13_17 : Int).toNat : List (S55))).bind fun y500 => (if y497.length + y500.length < 5864062014805 then ((some (y497 ++ y500 : List (S55))).bind fun y504 => ((some (([(⟨1, ((rd_T51 ((rd_T49 l1 (ji45)).f1) 0).f0), t470⟩ : S55)] : List (S55)) : List (S55))).bind fun y507 => (if y504.length + y507.length < 5864062014805 then ((chain_Run.f l0_0 l0_1 l1 t470 (y504 ++ y507)).bind fun bt513 => (cohousinglaw26_ChainLate.l2 k4 l1 a4 t468 bt513.1 bt513.2.2 0 ((rd_T51 ((rd_T49 l1 (ji45)).f1) 0).f0) ((rd_T51 ((rd_T49 l1 (ji45)).f1) 0).f1) ((rd_T51 ((rd_T49 l1 (ji45)).f1) 0).f2))) else (none)))) else (none))) else (none)) else (none)) = some r := by first | (rw [hy497]; with_reducible exact H) | (have H2_ := (Option.bind_some _ _).symm.trans H; rw [hy497]; with_reducible exact H2_) | (have H2_ := (Option.bind_some _ _).symm.trans H; with_reducible exact H2_) | with_reducible exact H | (rw [hy497]; exact H) | exact H
                  have Ny497 := Aside0.mk hy497
                  clear hy497
                  by_cases c60 : 0 ≤ x13_17
                  ·rw [if_pos c60] at H
                   have c60b0 := eq_true c60
                   have c60b1 : decide (0 ≤ x13_17) = true := decide_eq_true c60
                   clear c60
                   by_cases c61 : x13_17 ≤ (l3.length : Int)
                   ·rw [if_pos c61] at H
                    have c61b0 := eq_true c61
                    have c61b1 : decide (x13_17 ≤ (l3.length : Int)) = true := decide_eq_true c61
                    clear c61
                    obtain ⟨y500, hy500⟩ : ∃ y_ : List (S55), y_ = (l3.take (x13_17 : Int).toNat) := ⟨_, rfl⟩
                    replace H : (if y497.length + y500.length < 5864062014805 then ((some (y497 ++ y500 : List (S55))).bind fun y504 => ((some (([(⟨1, ((rd_T51 ((rd_T49 l1 (ji45)).f1) 0).f0), t470⟩ : S55)] : List (S55)) : List (S55))).bind fun y507 => (if y504.length + y507.length < 5864062014805 then ((chain_Run.f l0_0 l0_1 l1 t470 (y504 ++ y507)).bind fun bt513 => (cohousinglaw26_ChainLate.l2 k4 l1 a4 t468 bt513.1 bt513.2.2 0 ((rd_T51 ((rd_T49 l1 (ji45)).f1) 0).f0) ((rd_T51 ((rd_T49 l1 (ji45)).f1) 0).f1) ((rd_T51 ((rd_T49 l1 (ji45)).f1) 0).f2))) else (none)))) else (none)) = some r := by first | (rw [hy500]; with_reducible exact H) | (have H2_ := (Option.bind_some _ _).symm.trans H; rw [hy500]; with_reducible exact H2_) | (have H2_ := (Option.bind_some _ _).symm.trans H; with_reducible exact H2_) | with_reducible exact H | (rw [hy500]; exact H) | exact H
                    have Ny500 := Aside0.mk hy500
                    clear hy500
                    by_cases c62 : y497.length + y500.length < 5864062014805
                    ·rw [if_pos c62] at H
                     have LMc62 := Aside0.mk c62
                     clear c62
                     obtain ⟨y504, hy504⟩ : ∃ y_ : List (S55), y_ = (y497 ++ y500) := ⟨_, rfl⟩
                     replace H : ((some (([(⟨1, ((rd_T51 ((rd_T49 l1 (ji45)).f1) 0).f0), t470⟩ : S55)] : List (S55)) : List (S55))).bind fun y507 => (if y504.length + y507.length < 5864062014805 then ((chain_Run.f l0_0 l0_1 l1 t470 (y504 ++ y507)).bind fun bt513 => (cohousinglaw26_ChainLate.l2 k4 l1 a4 t468 bt513.1 bt513.2.2 0 ((rd_T51 ((rd_T49 l1 (ji45)).f1) 0).f0) ((rd_T51 ((rd_T49 l1 (ji45)).f1) 0).f1) ((rd_T51 ((rd_T49 l1 (ji45)).f1) 0).f2))) else (none))) = some r := by first | (rw [hy504]; with_reducible exact H) | (have H2_ := (Option.bind_some _ _).symm.trans H; rw [hy504]; with_reducible exact H2_) | (have H2_ := (Option.bind_some _ _).symm.trans H; with_reducible exact H2_) | with_reducible exact H | (rw [hy504]; exact H) | exact H
                     have Ny504 := Aside0.mk hy504
                     clear hy504
                     obtain ⟨y507, hy507⟩ : ∃ y_ : List (S55), y_ = (([(⟨1, ((rd_T51 ((rd_T49 l1 (ji45)).f1) 0).f0), t470⟩ : S55)] : List (S55))) := ⟨_, rfl⟩
                     replace H : (if y504.length + y507.length < 5864062014805 then ((chain_Run.f l0_0 l0_1 l1 t470 (y504 ++ y507)).bind fun bt513 => (cohousinglaw26_ChainLate.l2 k4 l1 a4 t468 bt513.1 bt513.2.2 0 ((rd_T51 ((rd_T49 l1 (ji45)).f1) 0).f0) ((rd_T51 ((rd_T49 l1 (ji45)).f1) 0).f1) ((rd_T51 ((rd_T49 l1 (ji45)).f1) 0).f2))) else (none)) = some r := by first | (rw [hy507]; with_reducible exact H) | (have H2_ := (Option.bind_some _ _).symm.trans H; rw [hy507]; with_reducible exact H2_) | (have H2_ := (Option.bind_some _ _).symm.trans H; with_reducible exact H2_) | with_reducible exact H | (rw [hy507]; exact H) | exact H
                     have Ny507 := Aside0.mk hy507
                     clear hy507
                     by_cases c63 : y504.length + y507.length < 5864062014805
                     ·rw [if_pos c63] at H
                      have LMc63 := Aside0.mk c63
                      clear c63
                      obtain ⟨y510, hy510⟩ : ∃ y_ : List (S55), y_ = (y504 ++ y507) := ⟨_, rfl⟩
                      replace H : ((chain_Run.f l0_0 l0_1 l1 t470 y510).bind fun bt513 => (cohousinglaw26_ChainLate.l2 k4 l1 a4 t468 bt513.1 bt513.2.2 0 ((rd_T51 ((rd_T49 l1 (ji45)).f1) 0).f0) ((rd_T51 ((rd_T49 l1 (ji45)).f1) 0).f1) ((rd_T51 ((rd_T49 l1 (ji45)).f1) 0).f2))) = some r := by first | (rw [hy510]; with_reducible exact H) | (have H2_ := (Option.bind_some _ _).symm.trans H; rw [hy510]; with_reducible exact H2_) | (have H2_ := (Option.bind_some _ _).symm.trans H; with_reducible exact H2_) | with_reducible exact H | (rw [hy510]; exact H) | exact H
                      have Ny510 := Aside0.mk hy510
                      clear hy510
                      replace H := Option.bind_eq_some_iff.mp H
                      obtain ⟨⟨t513, t516, t519⟩, A640, H⟩ := H
                      replace H : (cohousinglaw26_ChainLate.l2 k4 l1 a4 t468 t513 t519 0 ((rd_T51 ((rd_T49 l1 (ji45)).f1) 0).f0) ((rd_T51 ((rd_T49 l1 (ji45)).f1) 0).f1) ((rd_T51 ((rd_T49 l1 (ji45)).f1) 0).f2)) = some r := H
                      have A64 := Aside0.mk A640
                      clear A640
                      have H' := Aside0.mk H
                      clear H
                      try go_wp2
                      have n0_ := Aside0.mk (blk_drew BK467.out)
                      have n1_ := Aside0.mk (blk_drew BK494.out)
                      have n2_ := Aside0.mk (below_drew1 HB.out)
                      clear BK467
                      clear BK494
                      clear HB
                      have BK467 := n0_
                      have BK494 := n1_
                      have HB := n2_
                      clear n0_ n1_ n2_
                      have q66 : (x13_17 : Int) ≤ ((l3.length : Int) : Int) := od_
                      obtain ⟨i066, hi066, _, hsz66, _⟩ := info_parts info55
                      have hroom66 : l3.length ≤ c3 := HC3.out
                      have hC66 : Kd.C k55 _ A3 l3.length l3 := HR3.out
                      have hcut66 := cut_to (P := Try.prog) 27 55 .i64 Try.underlying27 hi066 A3 l3.length c3 x13_17 (od_) q66 hroom66
                      have hr66 := Kd.C_take (m := (x13_17 : Int).toNat) hC66 (by omega)
                      have hy66 : y500.length = (x13_17 : Int).toNat := (by rw [Ny500.out, List.length_take]; omega)
                      rw [← Ny500.out] at hr66
                      rw [← hy66] at hcut66
                      have HR503 := Aside0.mk hr66
                      have HC503 := Aside0.mk (show y500.length ≤ c3 from by omega)
                      clear hr66 hC66 hroom66 hi066 hsz66
                      have KY66 := Aside0.mk hy66
                      clear hy66
                      replace q66 := eq_true q66
                      refine start_ (n := 12) (S := fun w' => w'.cell? ⟨gb494, 0, none⟩ = some (.int .i64 ((rd_T51 ((rd_T49 l1 (ji45)).f1) 0).f0)) ∧ w'.cell? ⟨gb494, 1, none⟩ = some (.int .i64 ((rd_T51 ((rd_T49 l1 (ji45)).f1) 0).f1)) ∧ w'.cell? ⟨gb494, 2, none⟩ = some (.int .i64 ((rd_T51 ((rd_T49 l1 (ji45)).f1) 0).f2))) (ds := []) #[n_, n_, n_, n_, n_, n_, n_, n_, n_, n_, n_, n_] (by kernel_rfl) rfl rfl ⟨(blk_cell BK494.out 0).trans rfl, (blk_cell BK494.out 1).trans rfl, (blk_cell BK494.out 2).trans rfl⟩ (fun hHeld => ?_); refine with_tabW cohousinglaw26_ChainLate.tab20 cohousinglaw26_ChainLate.bits20 (fun HT_ HW_ => ?_)
                      generalize wr.drew = w65 at BK467 BK494 HB HR503 hHeld ⊢
                      refine pu_ 1 132 (w_ 12 2) rfl HT_ ?_
                      refine pu_ 2 133 (w_ 12 6) rfl HT_ ?_
                      refine pu_ 3 134 (w_ 12 14) rfl HT_ ?_
                      refine pu_ 5 136 (w_ 12 46) rfl HT_ ?_
                      refine pu_ 7 138 (w_ 12 174) rfl HT_ ?_
                      refine ta_ 6 137 (w_ 12 238) rfl HT_ HW_ hHeld (by rintro w' ⟨s0, s1, s2⟩; go_simp; with_reducible rfl) ?_
                      refine pu_ 8 139 (w_ 12 494) rfl HT_ ?_
                      refine join_ (σ := Value × Value × Value) 2 #[y_, y_, y_, y_, y_, y_, y_, y_, y_, y_, n_, n_] (fun s_ => [(131, s_.1), (135, s_.2.1), (140, s_.2.2)]) (fun s_ w' => (w'.cell? ⟨gb494, 0, none⟩ = some (.int .i64 ((rd_T51 ((rd_T49 l1 (ji45)).f1) 0).f0)) ∧ w'.cell? ⟨gb494, 1, none⟩ = some (.int .i64 ((rd_T51 ((rd_T49 l1 (ji45)).f1) 0).f1)) ∧ w'.cell? ⟨gb494, 2, none⟩ = some (.int .i64 ((rd_T51 ((rd_T49 l1 (ji45)).f1) 0).f2))) ∧ (Kd.R k55 55 w' w.heap.size (fun k_ => some k_ ≠ (s_.2.2 : Value).ownBlock) s_.2.1 y504) ∧ (Kd.R k55 55 w' w.heap.size (fun k_ => some k_ ≠ (s_.2.1 : Value).ownBlock) s_.2.2 y507) ∧ (w'.heap[gb467]? = some (.cells #[.slice A0_0 l0_0.length c0_0, .slice A0_1 l0_1.length c0_1] 25 (0, 0))) ∧ (w'.heap[gb494]? = some (.cells #[.int .i64 ((rd_T51 ((rd_T49 l1 (ji45)).f1) 0).f0), .int .i64 ((rd_T51 ((rd_T49 l1 (ji45)).f1) 0).f1), .int .i64 ((rd_T51 ((rd_T49 l1 (ji45)).f1) 0).f2)] 51 (0, 0))) ∧ (Below w.heap.size w w')) ?_ ?_
                      rotate_left
                      ·intro hCont
                       refine two_ (i := 0) (j := 9) (Ni := some 131) (Nj := some 140) #[y_, y_, y_, y_, n_, y_, y_, y_, y_, n_, n_, n_] #[n_, y_, y_, y_, n_, y_, y_, y_, y_, y_, n_, n_] rfl rfl rfl rfl (two_of HT_.out (by kernel_rfl)) (by decide) (by decide) (fun K hK => ?_) (fun K hK => ?_)
                       ·skip
                        refine Kd.R_lit_step k55 _ 55 ?hg (N := 131) ?hd (xs := ([] : List (S55))) (inner := []) (ok := fun _ => True) (okp := fun _ => True) ?hr ?hp (fun _ hk => hk) trivial (Below.refl _ _) (Nat.le_refl _) (by simp) ?_; (case hd => rfl); (case hg => rfl); (case hr => first | (go_simp; done) | (go_simp; rfl)); (case hp => exact (Reps.none _ _))
                        intro v498 w67 ho68 hb hg_ hnew_
                        clear hg_ hnew_
                        (first | rw [← Ny497.out] at ho68 | (simp only [Int.reduceToNat] at ho68; rw [← Ny497.out] at ho68))
                        have n0_ := Aside0.mk (Kd.R_lower ho68 (below_size (by repeat (first | (with_reducible first | exact HB.out | apply below_alloc | apply pw_below_drewN | apply below_drew1 | refine below_set ?_ GE467.out | refine below_set ?_ GE494.out) | exact HB.out))))
                        have n1_ := Aside0.mk (blk_below (g := gb467) (o := .cells #[.slice A0_0 l0_0.length c0_0, .slice A0_1 l0_1.length c0_1] 25 (0, 0)) (kk_ BK467) hb)
                        have n2_ := Aside0.mk (blk_below (g := gb494) (o := .cells #[.int .i64 ((rd_T51 ((rd_T49 l1 (ji45)).f1) 0).f0), .int .i64 ((rd_T51 ((rd_T49 l1 (ji45)).f1) 0).f1), .int .i64 ((rd_T51 ((rd_T49 l1 (ji45)).f1) 0).f2)] 51 (0, 0)) (kk_ BK494) hb)
                        have n3_ := Aside0.mk (below_step (by repeat (first | (with_reducible first | exact HB.out | apply below_alloc | apply pw_below_drewN | apply below_drew1 | refine below_set ?_ GE467.out | refine below_set ?_ GE494.out) | exact HB.out)) hb)
                        clear BK467
                        clear BK494
                        clear HB
                        have HO499 := n0_
                        have BK467 := n1_
                        have BK494 := n2_
                        have HB := n3_
                        clear n0_ n1_ n2_ n3_
                        clear hb ho68
                        refine hK.out _ _ ⟨(blk_cell BK494.out 0).trans rfl, (blk_cell BK494.out 1).trans rfl, (blk_cell BK494.out 2).trans rfl⟩ (fun hHeld => ?_)
                        clear hK K
                        refine norm_ (a' := ?_) ?_ ?_
                        rotate_left
                        ·show Act.put _ (some 131) _ = _
                         simp only [Act.put, sI_, s0_, sS_, i64_w, i32_w]
                         rfl
                        refine two_ (i := 4) (j := 9) (Ni := some 135) (Nj := some 140) #[y_, y_, y_, y_, y_, y_, y_, y_, y_, n_, n_, n_] #[y_, y_, y_, y_, n_, y_, y_, y_, y_, y_, n_, n_] rfl rfl rfl rfl (two_of HT_.out (by kernel_rfl)) (by decide) (by decide) (fun K hK => ?_) (fun K hK => ?_)
                        ·skip
                         refine Kd.R_append_rows_step k55 (w0 := w) w.heap.size (by rfl) (.tmp 131) (.tmp 134) 27 55 (.agg #[(.int .i64 0), (.int .i64 0), (.int .i64 0)]) 24 rfl Try.underlying27 info55 rfl (by decide) (by omega) v498 y497 y500 _ _ _ (fun _ => True) (fun _ => False) rfl rfl ?aO ?aR (fun _ _ h => h) (fun _ h => h.elim) ?aF ?aB ?aS ?aL ?_
                         (case aR => (first | rw [show y479.length = y500.length from KY30.out.trans KY66.out.symm] | skip); exact cc_ ((Kd.C_below HR503.out HB.out)))
                         (case aB => exact (by repeat (first | (with_reducible first | exact HB.out | apply below_alloc | apply pw_below_drewN | apply below_drew1 | refine below_set ?_ GE467.out | refine below_set ?_ GE494.out) | exact HB.out)))
                         (case aF => exact (fun _ _ => trivial))
                         (case aO => exact (rr_ HO499))
                         (case aS => exact (below_size (by repeat (first | (with_reducible first | exact HB.out | apply below_alloc | apply pw_below_drewN | apply below_drew1 | refine below_set ?_ GE467.out | refine below_set ?_ GE494.out) | exact HB.out))))
                         (case aL => have := LMc62.out; first | omega | (have e_ := KY30.out.trans KY66.out.symm; omega))
                         intro v505 w69 ho hb hg hat
                         rw [← Ny504.out] at ho
                         have n0_ := Aside0.mk (blk_grown (g := gb467) (o := .cells #[.slice A0_0 l0_0.length c0_0, .slice A0_1 l0_1.length c0_1] 25 (0, 0)) (kk_ BK467) hg (Kd.R_ne HO499.out BK467.out (by decide)))
                         have n1_ := Aside0.mk (blk_grown (g := gb494) (o := .cells #[.int .i64 ((rd_T51 ((rd_T49 l1 (ji45)).f1) 0).f0), .int .i64 ((rd_T51 ((rd_T49 l1 (ji45)).f1) 0).f1), .int .i64 ((rd_T51 ((rd_T49 l1 (ji45)).f1) 0).f2)] 51 (0, 0)) (kk_ BK494) hg (Kd.R_ne HO499.out BK494.out (by decide)))
                         have n2_ := Aside0.mk (hb)
                         have n3_ := Aside0.mk (ho)
                         clear BK467
                         clear BK494
                         clear HB
                         clear HO499
                         have BK467 := n0_
                         have BK494 := n1_
                         have HB := n2_
                         have HO506 := n3_
                         clear n0_ n1_ n2_ n3_
                         clear ho hb hg hat
                         refine hK.out _ _ ⟨(blk_cell BK494.out 0).trans rfl, (blk_cell BK494.out 1).trans rfl, (blk_cell BK494.out 2).trans rfl⟩ (fun hHeld => ?_)
                         clear hK K
                         refine norm_ (a' := ?_) ?_ ?_
                         rotate_left
                         ·show Act.put _ (some 135) _ = _
                          simp only [Act.put, sI_, s0_, sS_, i64_w, i32_w]
                          rfl
                         refine one_ (i := 9) (N := some 140) (w_ 12 1023) rfl rfl (one_of HT_.out (by kernel_rfl)) (by decide) (fun K hK => ?_)
                         refine Kd.R_lit_step k55 _ 55 ?hg (N := 140) ?hd (xs := ([(⟨1, ((rd_T51 ((rd_T49 l1 (ji45)).f1) 0).f0), t470⟩ : S55)] : List (S55))) (inner := [.int .i64 1, .int .i64 ((rd_T51 ((rd_T49 l1 (ji45)).f1) 0).f0), .int .i64 t470]) (ok := fun _ => True) (okp := fun _ => True) ?hr ?hp (fun _ hk => hk) trivial (Below.refl _ _) (Nat.le_refl _) (by simp) ?_; (case hd => rfl); (case hg => rfl); (case hr => first | (go_simp; done) | (go_simp; rfl)); (case hp => exact (Reps.c3 (show Kd.M k55 _ _ _ (⟨1, ((rd_T51 ((rd_T49 l1 (ji45)).f1) 0).f0), t470⟩ : S55) [.int .i64 1, .int .i64 ((rd_T51 ((rd_T49 l1 (ji45)).f1) 0).f0), .int .i64 t470] from (k55_mkM _ _ _ (⟨1, ((rd_T51 ((rd_T49 l1 (ji45)).f1) 0).f0), t470⟩ : S55) )) (Reps.none _ _)))
                         intro v508 w70 ho71 hb hg_ hnew_
                         clear hg_ hnew_
                         (first | rw [← Ny507.out] at ho71 | (simp only [Int.reduceToNat] at ho71; rw [← Ny507.out] at ho71))
                         have n0_ := Aside0.mk (Kd.R_elder' (rr_ HO506) (Kd.R_base ho71) hb)
                         have n1_ := Aside0.mk (Kd.R_lower (Kd.R_new' ho71 (Kd.R_lt (rr_ HO506))) (below_size (by repeat (first | (with_reducible first | exact HB.out | apply below_alloc | apply pw_below_drewN | apply below_drew1 | refine below_set ?_ GE467.out | refine below_set ?_ GE494.out) | exact HB.out))))
                         have n2_ := Aside0.mk (blk_below (g := gb467) (o := .cells #[.slice A0_0 l0_0.length c0_0, .slice A0_1 l0_1.length c0_1] 25 (0, 0)) (kk_ BK467) hb)
                         have n3_ := Aside0.mk (blk_below (g := gb494) (o := .cells #[.int .i64 ((rd_T51 ((rd_T49 l1 (ji45)).f1) 0).f0), .int .i64 ((rd_T51 ((rd_T49 l1 (ji45)).f1) 0).f1), .int .i64 ((rd_T51 ((rd_T49 l1 (ji45)).f1) 0).f2)] 51 (0, 0)) (kk_ BK494) hb)
                         have n4_ := Aside0.mk (below_step (by repeat (first | (with_reducible first | exact HB.out | apply below_alloc | apply pw_below_drewN | apply below_drew1 | refine below_set ?_ GE467.out | refine below_set ?_ GE494.out) | exact HB.out)) hb)
                         clear HO506
                         clear BK467
                         clear BK494
                         clear HB
                         have HO506 := n0_
                         have HO509 := n1_
                         have BK467 := n2_
                         have BK494 := n3_
                         have HB := n4_
                         clear n0_ n1_ n2_ n3_ n4_
                         clear hb ho71
                         refine hK.out _ _ ⟨(blk_cell BK494.out 0).trans rfl, (blk_cell BK494.out 1).trans rfl, (blk_cell BK494.out 2).trans rfl⟩ (fun hHeld => ?_)
                         clear hK K
                         refine norm_ (a' := ?_) ?_ ?_
                         rotate_left
                         ·show Act.put _ (some 140) _ = _
                          simp only [Act.put, sI_, s0_, sS_, i64_w, i32_w]
                          rfl
                         exact norm_ (by simp only [putAll, Act.put, sI_, s0_, sS_]) (hCont (v498, v505, v508) _ ⟨hHeld, (by (with_reducible repeat (first | apply Kd.R_alloc | apply Kd.R_drewN | apply Kd.R_drew)); exact Kd.R_mono HO506.out (fun _ hk => hk.2)), (by (with_reducible repeat (first | apply Kd.R_alloc | apply Kd.R_drewN | apply Kd.R_drew)); exact Kd.R_mono HO509.out (fun _ hk => hk.2)), (kk_ BK467), (kk_ BK494), (by repeat (first | (with_reducible first | exact HB.out | apply below_alloc | apply pw_below_drewN | apply below_drew1 | refine below_set ?_ GE467.out | refine below_set ?_ GE494.out) | exact HB.out))⟩)
                        ·skip
                         refine Kd.R_lit_step k55 _ 55 ?hg (N := 140) ?hd (xs := ([(⟨1, ((rd_T51 ((rd_T49 l1 (ji45)).f1) 0).f0), t470⟩ : S55)] : List (S55))) (inner := [.int .i64 1, .int .i64 ((rd_T51 ((rd_T49 l1 (ji45)).f1) 0).f0), .int .i64 t470]) (ok := fun _ => True) (okp := fun _ => True) ?hr ?hp (fun _ hk => hk) trivial (Below.refl _ _) (Nat.le_refl _) (by simp) ?_; (case hd => rfl); (case hg => rfl); (case hr => first | (go_simp; done) | (go_simp; rfl)); (case hp => exact (Reps.c3 (show Kd.M k55 _ _ _ (⟨1, ((rd_T51 ((rd_T49 l1 (ji45)).f1) 0).f0), t470⟩ : S55) [.int .i64 1, .int .i64 ((rd_T51 ((rd_T49 l1 (ji45)).f1) 0).f0), .int .i64 t470] from (k55_mkM _ _ _ (⟨1, ((rd_T51 ((rd_T49 l1 (ji45)).f1) 0).f0), t470⟩ : S55) )) (Reps.none _ _)))
                         intro v508 w69 ho70 hb hg_ hnew_
                         clear hg_ hnew_
                         (first | rw [← Ny507.out] at ho70 | (simp only [Int.reduceToNat] at ho70; rw [← Ny507.out] at ho70))
                         have n0_ := Aside0.mk (Kd.R_elder' (rr_ HO499) (Kd.R_base ho70) hb)
                         have n1_ := Aside0.mk (Kd.R_lower (Kd.R_new' ho70 (Kd.R_lt (rr_ HO499))) (below_size (by repeat (first | (with_reducible first | exact HB.out | apply below_alloc | apply pw_below_drewN | apply below_drew1 | refine below_set ?_ GE467.out | refine below_set ?_ GE494.out) | exact HB.out))))
                         have n2_ := Aside0.mk (blk_below (g := gb467) (o := .cells #[.slice A0_0 l0_0.length c0_0, .slice A0_1 l0_1.length c0_1] 25 (0, 0)) (kk_ BK467) hb)
                         have n3_ := Aside0.mk (blk_below (g := gb494) (o := .cells #[.int .i64 ((rd_T51 ((rd_T49 l1 (ji45)).f1) 0).f0), .int .i64 ((rd_T51 ((rd_T49 l1 (ji45)).f1) 0).f1), .int .i64 ((rd_T51 ((rd_T49 l1 (ji45)).f1) 0).f2)] 51 (0, 0)) (kk_ BK494) hb)
                         have n4_ := Aside0.mk (below_step (by repeat (first | (with_reducible first | exact HB.out | apply below_alloc | apply pw_below_drewN | apply below_drew1 | refine below_set ?_ GE467.out | refine below_set ?_ GE494.out) | exact HB.out)) hb)
                         clear HO499
                         clear BK467
                         clear BK494
                         clear HB
                         have HO499 := n0_
                         have HO509 := n1_
                         have BK467 := n2_
                         have BK494 := n3_
                         have HB := n4_
                         clear n0_ n1_ n2_ n3_ n4_
                         clear hb ho70
                         refine hK.out _ _ ⟨(blk_cell BK494.out 0).trans rfl, (blk_cell BK494.out 1).trans rfl, (blk_cell BK494.out 2).trans rfl⟩ (fun hHeld => ?_)
                         clear hK K
                         refine norm_ (a' := ?_) ?_ ?_
                         rotate_left
                         ·show Act.put _ (some 140) _ = _
                          simp only [Act.put, sI_, s0_, sS_, i64_w, i32_w]
                          rfl
                         refine one_ (i := 4) (N := some 135) (w_ 12 1023) rfl rfl (one_of HT_.out (by kernel_rfl)) (by decide) (fun K hK => ?_)
                         refine Kd.R_append_rows_step k55 (w0 := w) w.heap.size (by rfl) (.tmp 131) (.tmp 134) 27 55 (.agg #[(.int .i64 0), (.int .i64 0), (.int .i64 0)]) 24 rfl Try.underlying27 info55 rfl (by decide) (by omega) v498 y497 y500 _ _ _ (fun k_ => some k_ ≠ (v508 : Value).ownBlock) (fun _ => False) rfl rfl ?aO ?aR (fun _ _ h => h) (fun _ h => h.elim) ?aF ?aB ?aS ?aL ?_
                         (case aR => (first | rw [show y479.length = y500.length from KY30.out.trans KY66.out.symm] | skip); exact cc_ ((Kd.C_below HR503.out HB.out)))
                         (case aB => exact (by repeat (first | (with_reducible first | exact HB.out | apply below_alloc | apply pw_below_drewN | apply below_drew1 | refine below_set ?_ GE467.out | refine below_set ?_ GE494.out) | exact HB.out)))
                         (case aF => exact (fun k_ hk => Kd.fresh' (Kd.R_lt (rr_ HO509)) k_ hk))
                         (case aO => exact (by (with_reducible repeat (first | apply Kd.R_alloc | apply Kd.R_drewN | apply Kd.R_drew)); exact Kd.R_mono HO499.out (fun _ hk => hk.2)))
                         (case aS => exact (below_size (by repeat (first | (with_reducible first | exact HB.out | apply below_alloc | apply pw_below_drewN | apply below_drew1 | refine below_set ?_ GE467.out | refine below_set ?_ GE494.out) | exact HB.out))))
                         (case aL => have := LMc62.out; first | omega | (have e_ := KY30.out.trans KY66.out.symm; omega))
                         intro v505 w71 ho hb hg hat
                         rw [← Ny504.out] at ho
                         have n0_ := Aside0.mk (blk_grown (g := gb467) (o := .cells #[.slice A0_0 l0_0.length c0_0, .slice A0_1 l0_1.length c0_1] 25 (0, 0)) (kk_ BK467) hg (Kd.R_ne HO499.out BK467.out (by decide)))
                         have n1_ := Aside0.mk (blk_grown (g := gb494) (o := .cells #[.int .i64 ((rd_T51 ((rd_T49 l1 (ji45)).f1) 0).f0), .int .i64 ((rd_T51 ((rd_T49 l1 (ji45)).f1) 0).f1), .int .i64 ((rd_T51 ((rd_T49 l1 (ji45)).f1) 0).f2)] 51 (0, 0)) (kk_ BK494) hg (Kd.R_ne HO499.out BK494.out (by decide)))
                         have n2_ := Aside0.mk (Kd.R_after (ok := (fun _ => True)) (rr_ HO509) hg hat)
                         have n3_ := Aside0.mk (hb)
                         have n4_ := Aside0.mk (ho)
                         clear BK467
                         clear BK494
                         clear HO509
                         clear HB
                         clear HO499
                         have BK467 := n0_
                         have BK494 := n1_
                         have HO509 := n2_
                         have HB := n3_
                         have HO506 := n4_
                         clear n0_ n1_ n2_ n3_ n4_
                         clear ho hb hg hat
                         refine hK.out _ _ ⟨(blk_cell BK494.out 0).trans rfl, (blk_cell BK494.out 1).trans rfl, (blk_cell BK494.out 2).trans rfl⟩ (fun hHeld => ?_)
                         clear hK K
                         refine norm_ (a' := ?_) ?_ ?_
                         rotate_left
                         ·show Act.put _ (some 135) _ = _
                          simp only [Act.put, sI_, s0_, sS_, i64_w, i32_w]
                          rfl
                         exact norm_ (by simp only [putAll, Act.put, sI_, s0_, sS_]) (hCont (v498, v505, v508) _ ⟨hHeld, (rr_ HO506), (by (with_reducible repeat (first | apply Kd.R_alloc | apply Kd.R_drewN | apply Kd.R_drew)); exact Kd.R_mono HO509.out (fun _ hk => hk.2)), (kk_ BK467), (kk_ BK494), (by repeat (first | (with_reducible first | exact HB.out | apply below_alloc | apply pw_below_drewN | apply below_drew1 | refine below_set ?_ GE467.out | refine below_set ?_ GE494.out) | exact HB.out))⟩)
                       ·skip
                        refine Kd.R_lit_step k55 _ 55 ?hg (N := 140) ?hd (xs := ([(⟨1, ((rd_T51 ((rd_T49 l1 (ji45)).f1) 0).f0), t470⟩ : S55)] : List (S55))) (inner := [.int .i64 1, .int .i64 ((rd_T51 ((rd_T49 l1 (ji45)).f1) 0).f0), .int .i64 t470]) (ok := fun _ => True) (okp := fun _ => True) ?hr ?hp (fun _ hk => hk) trivial (Below.refl _ _) (Nat.le_refl _) (by simp) ?_; (case hd => rfl); (case hg => rfl); (case hr => first | (go_simp; done) | (go_simp; rfl)); (case hp => exact (Reps.c3 (show Kd.M k55 _ _ _ (⟨1, ((rd_T51 ((rd_T49 l1 (ji45)).f1) 0).f0), t470⟩ : S55) [.int .i64 1, .int .i64 ((rd_T51 ((rd_T49 l1 (ji45)).f1) 0).f0), .int .i64 t470] from (k55_mkM _ _ _ (⟨1, ((rd_T51 ((rd_T49 l1 (ji45)).f1) 0).f0), t470⟩ : S55) )) (Reps.none _ _)))
                        intro v508 w67 ho68 hb hg_ hnew_
                        clear hg_ hnew_
                        (first | rw [← Ny507.out] at ho68 | (simp only [Int.reduceToNat] at ho68; rw [← Ny507.out] at ho68))
                        have n0_ := Aside0.mk (Kd.R_lower ho68 (below_size (by repeat (first | (with_reducible first | exact HB.out | apply below_alloc | apply pw_below_drewN | apply below_drew1 | refine below_set ?_ GE467.out | refine below_set ?_ GE494.out) | exact HB.out))))
                        have n1_ := Aside0.mk (blk_below (g := gb467) (o := .cells #[.slice A0_0 l0_0.length c0_0, .slice A0_1 l0_1.length c0_1] 25 (0, 0)) (kk_ BK467) hb)
                        have n2_ := Aside0.mk (blk_below (g := gb494) (o := .cells #[.int .i64 ((rd_T51 ((rd_T49 l1 (ji45)).f1) 0).f0), .int .i64 ((rd_T51 ((rd_T49 l1 (ji45)).f1) 0).f1), .int .i64 ((rd_T51 ((rd_T49 l1 (ji45)).f1) 0).f2)] 51 (0, 0)) (kk_ BK494) hb)
                        have n3_ := Aside0.mk (below_step (by repeat (first | (with_reducible first | exact HB.out | apply below_alloc | apply pw_below_drewN | apply below_drew1 | refine below_set ?_ GE467.out | refine below_set ?_ GE494.out) | exact HB.out)) hb)
                        clear BK467
                        clear BK494
                        clear HB
                        have HO509 := n0_
                        have BK467 := n1_
                        have BK494 := n2_
                        have HB := n3_
                        clear n0_ n1_ n2_ n3_
                        clear hb ho68
                        refine hK.out _ _ ⟨(blk_cell BK494.out 0).trans rfl, (blk_cell BK494.out 1).trans rfl, (blk_cell BK494.out 2).trans rfl⟩ (fun hHeld => ?_)
                        clear hK K
                        refine norm_ (a' := ?_) ?_ ?_
                        rotate_left
                        ·show Act.put _ (some 140) _ = _
                         simp only [Act.put, sI_, s0_, sS_, i64_w, i32_w]
                         rfl
                        refine one_ (i := 0) (N := some 131) (w_ 12 1007) rfl rfl (one_of HT_.out (by kernel_rfl)) (by decide) (fun K hK => ?_)
                        refine Kd.R_lit_step k55 _ 55 ?hg (N := 131) ?hd (xs := ([] : List (S55))) (inner := []) (ok := fun _ => True) (okp := fun _ => True) ?hr ?hp (fun _ hk => hk) trivial (Below.refl _ _) (Nat.le_refl _) (by simp) ?_; (case hd => rfl); (case hg => rfl); (case hr => first | (go_simp; done) | (go_simp; rfl)); (case hp => exact (Reps.none _ _))
                        intro v498 w69 ho70 hb hg_ hnew_
                        clear hg_ hnew_
                        (first | rw [← Ny497.out] at ho70 | (simp only [Int.reduceToNat] at ho70; rw [← Ny497.out] at ho70))
                        have n0_ := Aside0.mk (Kd.R_elder' (rr_ HO509) (Kd.R_base ho70) hb)
                        have n1_ := Aside0.mk (Kd.R_lower (Kd.R_new' ho70 (Kd.R_lt (rr_ HO509))) (below_size (by repeat (first | (with_reducible first | exact HB.out | apply below_alloc | apply pw_below_drewN | apply below_drew1 | refine below_set ?_ GE467.out | refine below_set ?_ GE494.out) | exact HB.out))))
                        have n2_ := Aside0.mk (blk_below (g := gb467) (o := .cells #[.slice A0_0 l0_0.length c0_0, .slice A0_1 l0_1.length c0_1] 25 (0, 0)) (kk_ BK467) hb)
                        have n3_ := Aside0.mk (blk_below (g := gb494) (o := .cells #[.int .i64 ((rd_T51 ((rd_T49 l1 (ji45)).f1) 0).f0), .int .i64 ((rd_T51 ((rd_T49 l1 (ji45)).f1) 0).f1), .int .i64 ((rd_T51 ((rd_T49 l1 (ji45)).f1) 0).f2)] 51 (0, 0)) (kk_ BK494) hb)
                        have n4_ := Aside0.mk (below_step (by repeat (first | (with_reducible first | exact HB.out | apply below_alloc | apply pw_below_drewN | apply below_drew1 | refine below_set ?_ GE467.out | refine below_set ?_ GE494.out) | exact HB.out)) hb)
                        clear HO509
                        clear BK467
                        clear BK494
                        clear HB
                        have HO509 := n0_
                        have HO499 := n1_
                        have BK467 := n2_
                        have BK494 := n3_
                        have HB := n4_
                        clear n0_ n1_ n2_ n3_ n4_
                        clear hb ho70
                        refine hK.out _ _ ⟨(blk_cell BK494.out 0).trans rfl, (blk_cell BK494.out 1).trans rfl, (blk_cell BK494.out 2).trans rfl⟩ (fun hHeld => ?_)
                        clear hK K
                        refine norm_ (a' := ?_) ?_ ?_
                        rotate_left
                        ·show Act.put _ (some 131) _ = _
                         simp only [Act.put, sI_, s0_, sS_, i64_w, i32_w]
                         rfl
                        refine one_ (i := 4) (N := some 135) (w_ 12 1023) rfl rfl (one_of HT_.out (by kernel_rfl)) (by decide) (fun K hK => ?_)
                        refine Kd.R_append_rows_step k55 (w0 := w) w.heap.size (by rfl) (.tmp 131) (.tmp 134) 27 55 (.agg #[(.int .i64 0), (.int .i64 0), (.int .i64 0)]) 24 rfl Try.underlying27 info55 rfl (by decide) (by omega) v498 y497 y500 _ _ _ (fun k_ => some k_ ≠ (v508 : Value).ownBlock) (fun _ => False) rfl rfl ?aO ?aR (fun _ _ h => h) (fun _ h => h.elim) ?aF ?aB ?aS ?aL ?_
                        (case aR => (first | rw [show y479.length = y500.length from KY30.out.trans KY66.out.symm] | skip); exact cc_ ((Kd.C_below HR503.out HB.out)))
                        (case aB => exact (by repeat (first | (with_reducible first | exact HB.out | apply below_alloc | apply pw_below_drewN | apply below_drew1 | refine below_set ?_ GE467.out | refine below_set ?_ GE494.out) | exact HB.out)))
                        (case aF => exact (fun k_ hk => Kd.fresh' (Kd.R_lt (rr_ HO509)) k_ hk))
                        (case aO => exact (by (with_reducible repeat (first | apply Kd.R_alloc | apply Kd.R_drewN | apply Kd.R_drew)); exact Kd.R_mono HO499.out (fun _ hk => hk.2)))
                        (case aS => exact (below_size (by repeat (first | (with_reducible first | exact HB.out | apply below_alloc | apply pw_below_drewN | apply below_drew1 | refine below_set ?_ GE467.out | refine below_set ?_ GE494.out) | exact HB.out))))
                        (case aL => have := LMc62.out; first | omega | (have e_ := KY30.out.trans KY66.out.symm; omega))
                        intro v505 w71 ho hb hg hat
                        rw [← Ny504.out] at ho
                        have n0_ := Aside0.mk (blk_grown (g := gb467) (o := .cells #[.slice A0_0 l0_0.length c0_0, .slice A0_1 l0_1.length c0_1] 25 (0, 0)) (kk_ BK467) hg (Kd.R_ne HO499.out BK467.out (by decide)))
                        have n1_ := Aside0.mk (blk_grown (g := gb494) (o := .cells #[.int .i64 ((rd_T51 ((rd_T49 l1 (ji45)).f1) 0).f0), .int .i64 ((rd_T51 ((rd_T49 l1 (ji45)).f1) 0).f1), .int .i64 ((rd_T51 ((rd_T49 l1 (ji45)).f1) 0).f2)] 51 (0, 0)) (kk_ BK494) hg (Kd.R_ne HO499.out BK494.out (by decide)))
                        have n2_ := Aside0.mk (Kd.R_after (ok := (fun _ => True)) (rr_ HO509) hg hat)
                        have n3_ := Aside0.mk (hb)
                        have n4_ := Aside0.mk (ho)
                        clear BK467
                        clear BK494
                        clear HO509
                        clear HB
                        clear HO499
                        have BK467 := n0_
                        have BK494 := n1_
                        have HO509 := n2_
                        have HB := n3_
                        have HO506 := n4_
                        clear n0_ n1_ n2_ n3_ n4_
                        clear ho hb hg hat
                        refine hK.out _ _ ⟨(blk_cell BK494.out 0).trans rfl, (blk_cell BK494.out 1).trans rfl, (blk_cell BK494.out 2).trans rfl⟩ (fun hHeld => ?_)
                        clear hK K
                        refine norm_ (a' := ?_) ?_ ?_
                        rotate_left
                        ·show Act.put _ (some 135) _ = _
                         simp only [Act.put, sI_, s0_, sS_, i64_w, i32_w]
                         rfl
                        exact norm_ (by simp only [putAll, Act.put, sI_, s0_, sS_]) (hCont (v498, v505, v508) _ ⟨hHeld, (rr_ HO506), (by (with_reducible repeat (first | apply Kd.R_alloc | apply Kd.R_drewN | apply Kd.R_drew)); exact Kd.R_mono HO509.out (fun _ hk => hk.2)), (kk_ BK467), (kk_ BK494), (by repeat (first | (with_reducible first | exact HB.out | apply below_alloc | apply pw_below_drewN | apply below_drew1 | refine below_set ?_ GE467.out | refine below_set ?_ GE494.out) | exact HB.out))⟩)
                      rintro ⟨v498, v505, v508⟩ w72 ⟨hS_, h0_, h1_, h2_, h3_, h4_⟩
                      have n0_ : Aside0 (Kd.R k55 55 w72 w.heap.size (fun k_ => some k_ ≠ (v508 : Value).ownBlock) v505 y504) := ⟨h0_⟩
                      have n1_ : Aside0 (Kd.R k55 55 w72 w.heap.size (fun k_ => some k_ ≠ (v505 : Value).ownBlock) v508 y507) := ⟨h1_⟩
                      have n2_ : Aside0 (w72.heap[gb467]? = some (.cells #[.slice A0_0 l0_0.length c0_0, .slice A0_1 l0_1.length c0_1] 25 (0, 0))) := ⟨h2_⟩
                      have n3_ : Aside0 (w72.heap[gb494]? = some (.cells #[.int .i64 ((rd_T51 ((rd_T49 l1 (ji45)).f1) 0).f0), .int .i64 ((rd_T51 ((rd_T49 l1 (ji45)).f1) 0).f1), .int .i64 ((rd_T51 ((rd_T49 l1 (ji45)).f1) 0).f2)] 51 (0, 0))) := ⟨h3_⟩
                      have n4_ : Aside0 (Below w.heap.size w w72) := ⟨h4_⟩
                      clear BK467
                      clear BK494
                      clear HB
                      clear h0_ h1_ h2_ h3_ h4_
                      have HO506 := n0_
                      have HO509 := n1_
                      have BK467 := n2_
                      have BK494 := n3_
                      have HB := n4_
                      clear n0_ n1_ n2_ n3_ n4_
                      have hHeld : w72.cell? ⟨gb494, 0, none⟩ = some (.int .i64 ((rd_T51 ((rd_T49 l1 (ji45)).f1) 0).f0)) ∧ w72.cell? ⟨gb494, 1, none⟩ = some (.int .i64 ((rd_T51 ((rd_T49 l1 (ji45)).f1) 0).f1)) ∧ w72.cell? ⟨gb494, 2, none⟩ = some (.int .i64 ((rd_T51 ((rd_T49 l1 (ji45)).f1) 0).f2)) := hS_
                      obtain ⟨Ao74, co74, eo74⟩ := Kd.R_slice HO509.out
                      (first | subst eo74 | (injection eo74 with f1_ f2_ f3_; have f4_ := f1_.symm; have f5_ := f3_.symm; clear f1_ f2_ f3_; subst f4_; subst f5_))
                      refine norm_ (a' := ?_) ?_ ?_
                      rotate_left
                      ·simp only [putAll, Act.put, sI_, s0_, sS_]
                       rfl
                      refine one_ (i := 10) (N := some 141) (w_ 12 2047) rfl rfl (one_of HT_.out (by kernel_rfl)) (by decide) (fun K hK => ?_)
                      refine Kd.R_append_rows_step k55 (w0 := w) w.heap.size (by rfl) (.tmp 135) (.tmp 140) 27 55 (.agg #[(.int .i64 0), (.int .i64 0), (.int .i64 0)]) 24 rfl Try.underlying27 info55 rfl (by decide) (by omega) v505 y504 y507 _ _ _ (fun k_ => some k_ ≠ (.slice Ao74 y507.length co74 : Value).ownBlock) (fun _ => False) rfl rfl ?aO ?aR (fun _ _ h => h) (fun _ h => h.elim) ?aF ?aB ?aS ?aL ?_
                      (case aR => exact cc_ ((Kd.R_reads' HO509.out).2.2))
                      (case aB => exact (by repeat (first | (with_reducible first | exact HB.out | apply below_alloc | apply pw_below_drewN | apply below_drew1 | refine below_set ?_ GE467.out | refine below_set ?_ GE494.out) | exact HB.out)))
                      (case aF => exact (fun k_ hk => Kd.fresh' (Kd.R_lt (rr_ HO509)) k_ hk))
                      (case aO => exact (rr_ HO506))
                      (case aS => exact (below_size (by repeat (first | (with_reducible first | exact HB.out | apply below_alloc | apply pw_below_drewN | apply below_drew1 | refine below_set ?_ GE467.out | refine below_set ?_ GE494.out) | exact HB.out))))
                      (case aL => have := LMc63.out; first | omega | (have e_ := KY30.out.trans KY66.out.symm; omega))
                      intro v511 w73 ho hb hg hat
                      rw [← Ny510.out] at ho
                      have n0_ := Aside0.mk (blk_grown (g := gb467) (o := .cells #[.slice A0_0 l0_0.length c0_0, .slice A0_1 l0_1.length c0_1] 25 (0, 0)) (kk_ BK467) hg (Kd.R_ne HO506.out BK467.out (by decide)))
                      have n1_ := Aside0.mk (blk_grown (g := gb494) (o := .cells #[.int .i64 ((rd_T51 ((rd_T49 l1 (ji45)).f1) 0).f0), .int .i64 ((rd_T51 ((rd_T49 l1 (ji45)).f1) 0).f1), .int .i64 ((rd_T51 ((rd_T49 l1 (ji45)).f1) 0).f2)] 51 (0, 0)) (kk_ BK494) hg (Kd.R_ne HO506.out BK494.out (by decide)))
                      have n2_ := Aside0.mk (Kd.R_after (ok := (fun _ => True)) (by (with_reducible repeat (first | apply Kd.R_alloc | apply Kd.R_drewN | apply Kd.R_drew)); exact Kd.R_mono HO509.out (fun _ hk => ⟨trivial, hk⟩)) hg hat)
                      have n3_ := Aside0.mk (hb)
                      have n4_ := Aside0.mk (ho)
                      clear BK467
                      clear BK494
                      clear HO509
                      clear HB
                      clear HO506
                      have BK467 := n0_
                      have BK494 := n1_
                      have HO509 := n2_
                      have HB := n3_
                      have HO512 := n4_
                      clear n0_ n1_ n2_ n3_ n4_
                      clear ho hb hg hat
                      refine hK.out _ _ ⟨(blk_cell BK494.out 0).trans rfl, (blk_cell BK494.out 1).trans rfl, (blk_cell BK494.out 2).trans rfl⟩ (fun hHeld => ?_)
                      clear hK K
                      refine norm_ (a' := ?_) ?_ ?_
                      rotate_left
                      ·show Act.put _ (some 141) _ = _
                       simp only [Act.put, sI_, s0_, sS_, i64_w, i32_w]
                       rfl
                      refine pu_ 11 22 (w_ 12 4095) rfl HT_ ?_
                      refine done_ (done_of HT_.out (by kernel_rfl)) ?_
                      have hnb75 := NB467_494.out
                      have hnc75 := NB494_467.out
                      have hcz76_0 : w73.cell? ⟨gb467, 0, none⟩ = some (.slice A0_0 l0_0.length c0_0) := (blk_cell BK467.out 0).trans rfl
                      have hcz76_1 : w73.cell? ⟨gb467, 1, none⟩ = some (.slice A0_1 l0_1.length c0_1) := (blk_cell BK467.out 1).trans rfl
                      have hfz76_0 := blk_frozen BK467.out 0
                      have hfz76_1 := blk_frozen BK467.out 1
                      obtain ⟨Ao77, co77, eo77⟩ := Kd.R_slice HO512.out
                      subst eo77
                      try go_wp2_with (first | ((with_reducible refine gate_callee (f := 13) rfl ?_); refine gl_ (some 147) Try.func13 #[.agg #[.slice A0_0 l0_0.length c0_0, .slice A0_1 l0_1.length c0_1], .slice (some ad492) l1.length c1, .int .i64 t470, .slice Ao77 y510.length co77] ?_; (with_reducible refine (chain_Run.calls _ _ l0_0 _ _ l0_1 _ _ l1 t470 _ _ y510 t513 t516 t519 _ ?side1 ?side2 ?side3 ?side4 ?side5 ?side6 ?side7 ?side8 A64.out).mono ?_); (case side1 => exact cc_ ((Kd.C_below HR0_0.out HB.out))); (case side2 => exact HC0_0.out); (case side3 => exact cc_ ((Kd.C_below HR0_1.out HB.out))); (case side4 => exact HC0_1.out); (case side5 => exact cc_ ((Kd.C_below HR1.out HB.out))); (case side6 => exact HC1.out); (case side7 => exact cc_ ((Kd.R_reads' HO512.out).2.2)); (case side8 => exact (Kd.R_reads' HO512.out).2.1); rintro e w78 ⟨v514, v517, rfl, ho0, ho1, hb⟩; refine ⟨_, rfl, ?_⟩; have n0_ := Aside0.mk (Kd.R_below (rr_ HO509) hb); have n1_ := Aside0.mk (Kd.R_below (rr_ HO512) hb); have n2_ := Aside0.mk (Kd.R_lower (Kd.R_newB ho0 (g := gb494) (o := .cells #[.int .i64 ((rd_T51 ((rd_T49 l1 (ji45)).f1) 0).f0), .int .i64 ((rd_T51 ((rd_T49 l1 (ji45)).f1) 0).f1), .int .i64 ((rd_T51 ((rd_T49 l1 (ji45)).f1) 0).f2)] 51 (0, 0)) (kk_ BK494)) (below_size (by repeat (first | (with_reducible first | exact HB.out | apply below_alloc | apply pw_below_drewN | apply below_drew1 | refine below_set ?_ GE467.out | refine below_set ?_ GE494.out) | exact HB.out)))); have n3_ := Aside0.mk (Kd.R_lower ho1 (below_size (by repeat (first | (with_reducible first | exact HB.out | apply below_alloc | apply pw_below_drewN | apply below_drew1 | refine below_set ?_ GE467.out | refine below_set ?_ GE494.out) | exact HB.out)))); have n4_ := Aside0.mk (blk_below (g := gb467) (o := .cells #[.slice A0_0 l0_0.length c0_0, .slice A0_1 l0_1.length c0_1] 25 (0, 0)) (kk_ BK467) hb); have n5_ := Aside0.mk (blk_below (g := gb494) (o := .cells #[.int .i64 ((rd_T51 ((rd_T49 l1 (ji45)).f1) 0).f0), .int .i64 ((rd_T51 ((rd_T49 l1 (ji45)).f1) 0).f1), .int .i64 ((rd_T51 ((rd_T49 l1 (ji45)).f1) 0).f2)] 51 (0, 0)) (kk_ BK494) hb); have n6_ := Aside0.mk (below_step (by repeat (first | (with_reducible first | exact HB.out | apply below_alloc | apply pw_below_drewN | apply below_drew1 | refine below_set ?_ GE467.out | refine below_set ?_ GE494.out) | exact HB.out)) hb); clear HO509; clear HO512; clear BK467; clear BK494; clear HB; have HO509 := n0_; have HO512 := n1_; have HO515 := n2_; have HO518 := n3_; have BK467 := n4_; have BK494 := n5_; have HB := n6_; clear n0_ n1_ n2_ n3_ n4_ n5_ n6_; (try clear hb); (try clear hb2); (try clear hk); (try clear hi); (try clear ho0); (try clear ho1)))
                      go_loopg [26] k4 (fun kq v26 w' => ∃ (x26_5 : Int), v26 = .int .i64 x26_5 ∧ Aside0 (cohousinglaw26_ChainLate.l2 kq l1 a4 t468 t513 t519 x26_5 ((rd_T51 ((rd_T49 l1 (ji45)).f1) 0).f0) ((rd_T51 ((rd_T49 l1 (ji45)).f1) 0).f1) ((rd_T51 ((rd_T49 l1 (ji45)).f1) 0).f2) = some r) ∧ Aside0 (kq ≤ k4) ∧ Aside0 (Kd.R k51 51 w' w.heap.size (fun k_ => k_ ≠ gb494) v514 t513) ∧ Aside0 (w'.heap[gb467]? = some (.cells #[(.slice A0_0 l0_0.length c0_0), (.slice A0_1 l0_1.length c0_1)] 25 (0, 0))) ∧ Aside0 (w'.heap[gb494]? = some (.cells #[.int .i64 ((rd_T51 ((rd_T49 l1 (ji45)).f1) 0).f0), .int .i64 ((rd_T51 ((rd_T49 l1 (ji45)).f1) 0).f1), .int .i64 ((rd_T51 ((rd_T49 l1 (ji45)).f1) 0).f2)] 51 (0, 0))) ∧ Aside0 (Below w.heap.size w w'))
                      case atStart => exact ⟨(0), sd_, H', ⟨Nat.le_refl _⟩, ⟨by (with_reducible repeat (first | apply Kd.R_alloc | apply Kd.R_drewN | apply Kd.R_drew)); exact Kd.R_mono HO515.out (fun _ hk => hk.2)⟩, ⟨by (with_reducible repeat (first | refine blk_drewN ?_ _ | refine blk_drew ?_ | refine blk_alloc ?_ _)); exact BK467.out⟩, ⟨by (with_reducible repeat (first | refine blk_drewN ?_ _ | refine blk_drew ?_ | refine blk_alloc ?_ _)); exact BK494.out⟩, ⟨by repeat (first | (with_reducible first | exact HB.out | apply below_alloc | apply pw_below_drewN | apply below_drew1 | refine below_set ?_ GE467.out | refine below_set ?_ GE494.out) | exact HB.out)⟩⟩
                      case round =>
                       clear H'
                       try clear c1
                       try clear p2
                       try clear c3
                       try clear p4
                       try clear q4
                       try clear hx4
                       try clear c5
                       try clear c6
                       try clear p6
                       try clear q6
                       try clear c7
                       try clear c13
                       try clear p49
                       try clear q49
                       try clear hx49
                       try clear c52
                       try clear c52b0
                       try clear c53
                       try clear c54
                       try clear c55
                       try clear c55b0
                       try clear c55b1
                       try clear c60
                       try clear c60b0
                       try clear c60b1
                       try clear c61
                       try clear c61b0
                       try clear c61b1
                       try clear c62
                       try clear c63
                       try clear p64
                       try clear q66
                       try clear c75
                       try clear hcz76_0
                       try clear hcz76_1
                       try clear hfz76_0
                       try clear hfz76_1
                       try clear hx495_0
                       try clear hx495_1
                       try clear hx495_2
                       try clear p495
                       try clear q495
                       try clear q66
                       obtain ⟨x26_5, rfl, HA, HK5, HO_23, BK467, BK494, HB⟩ := hrel
                       cases gk with
                       | zero => exact absurd HA.out (by simp [cohousinglaw26_ChainLate.l2])
                       | succ k5 =>
                        have H := HA.out
                        clear HA
                        simp only [cohousinglaw26_ChainLate.l2] at H
                        by_cases c79 : x26_5 < (t513.length : Int)
                        ·rw [if_pos c79] at H
                         have c79b0 : decide (x26_5 < (t513.length : Int)) = true := decide_eq_true c79
                         clear c79
                         by_cases c80 : 0 ≤ x26_5
                         ·rw [if_pos c80] at H
                          have c80b0 : decide (0 ≤ x26_5) = true := decide_eq_true c80
                          clear c80
                          by_cases c81 : (((rd_T51 t513 x26_5).f0) == ((rd_T51 ((rd_T49 l1 (ji45)).f1) 0).f0) && (((rd_T51 t513 x26_5).f1) == ((rd_T51 ((rd_T49 l1 (ji45)).f1) 0).f1) && (((rd_T51 t513 x26_5).f2) == ((rd_T51 ((rd_T49 l1 (ji45)).f1) 0).f2)))) = true
                          ·rw [if_pos c81] at H
                           have c81b0 : (((rd_T51 t513 x26_5).f0) == ((rd_T51 ((rd_T49 l1 (ji45)).f1) 0).f0) && (((rd_T51 t513 x26_5).f1) == ((rd_T51 ((rd_T49 l1 (ji45)).f1) 0).f1) && (((rd_T51 t513 x26_5).f2) == ((rd_T51 ((rd_T49 l1 (ji45)).f1) 0).f2)))) = true := c81
                           (try (have c81b1 : decide (((rd_T51 t513 x26_5).f0) = ((rd_T51 ((rd_T49 l1 (ji45)).f1) 0).f0) && (((rd_T51 t513 x26_5).f1) == ((rd_T51 ((rd_T49 l1 (ji45)).f1) 0).f1) && (((rd_T51 t513 x26_5).f2) == ((rd_T51 ((rd_T49 l1 (ji45)).f1) 0).f2)))) = true := by simpa using c81))
                           (try (have c81b2 : (((rd_T51 t513 x26_5).f0) == ((rd_T51 ((rd_T49 l1 (ji45)).f1) 0).f0) && (((rd_T51 t513 x26_5).f1) == ((rd_T51 ((rd_T49 l1 (ji45)).f1) 0).f1) && (((rd_T51 t513 x26_5).f2) == ((rd_T51 ((rd_T49 l1 (ji45)).f1) 0).f2)))) = true := by simpa using c81))
                           clear c81
                           by_cases c82 : t468 = true
                           ·subst c82
                            have H1 : (some (t519 == 0)) = some r := by rw [if_pos rfl] at H; exact H
                            clear H
                            have H := H1
                            clear H1
                            obtain rfl := Option.some.inj H
                            obtain ⟨Ao83, co83, eo83⟩ := Kd.R_slice HO_23.out
                            subst eo83
                            try go_wp2
                            have n0_ := Aside0.mk (Kd.R_drew HO_23.out)
                            have n1_ := Aside0.mk (blk_drew BK467.out)
                            have n2_ := Aside0.mk (blk_drew BK494.out)
                            have n3_ := Aside0.mk (below_drew1 HB.out)
                            clear HO_23
                            clear BK467
                            clear BK494
                            clear HB
                            have HO_23 := n0_
                            have BK467 := n1_
                            have BK494 := n2_
                            have HB := n3_
                            clear n0_ n1_ n2_ n3_
                            have p520 : 0 ≤ (x26_5 : Int) := od_
                            have q520 : x26_5 < (t513.length : Int) := od_
                            obtain ⟨ad520, e520, hx520_0, hx520_1, hx520_2⟩ := at_T51 (Kd.R_reads' HO_23.out).2.2 x26_5 p520 q520
                            cases e520
                            replace p520 := eq_true p520
                            replace q520 := eq_true q520
                            refine start_ (n := 6) (S := fun w' => w'.cell? ⟨gb494, 0, none⟩ = some (.int .i64 ((rd_T51 ((rd_T49 l1 (ji45)).f1) 0).f0)) ∧ w'.cell? ⟨gb494, 1, none⟩ = some (.int .i64 ((rd_T51 ((rd_T49 l1 (ji45)).f1) 0).f1)) ∧ w'.cell? ⟨gb494, 2, none⟩ = some (.int .i64 ((rd_T51 ((rd_T49 l1 (ji45)).f1) 0).f2)) ∧ w'.cell? (ad520.add ((x26_5).toNat * 3)) = some (.int .i64 ((rd_T51 t513 x26_5).f0)) ∧ w'.cell? ⟨(ad520.add ((x26_5).toNat * 3)).block, (ad520.add ((x26_5).toNat * 3)).off + 1, none⟩ = some (.int .i64 ((rd_T51 t513 x26_5).f1)) ∧ w'.cell? ⟨(ad520.add ((x26_5).toNat * 3)).block, (ad520.add ((x26_5).toNat * 3)).off + 2, none⟩ = some (.int .i64 ((rd_T51 t513 x26_5).f2))) (ds := []) #[n_, n_, n_, n_, n_, n_] (by kernel_rfl) rfl rfl ⟨(blk_cell BK494.out 0).trans rfl, (blk_cell BK494.out 1).trans rfl, (blk_cell BK494.out 2).trans rfl, hx520_0, hx520_1, hx520_2⟩ (fun hHeld => ?_)
                            generalize wr.drew = w84 at HO_23 BK467 BK494 HB hx520_0 hx520_1 hx520_2 hHeld ⊢
                            refine pv_ 0 157 (w_ 6 1) rfl ?_
                            refine pv_ 1 158 (w_ 6 3) rfl ?_
                            refine pv_ 2 159 (w_ 6 7) rfl ?_
                            refine tb_ 3 160 (w_ 6 15) rfl hHeld (by rintro w' ⟨s0, s1, s2, s3, s4, s5⟩; go_simp; with_reducible rfl) ?_
                            refine tb_ 4 161 (w_ 6 31) rfl hHeld (by rintro w' ⟨s0, s1, s2, s3, s4, s5⟩; go_simp; with_reducible rfl) ?_
                            refine pv_ 5 162 (w_ 6 63) rfl ?_
                            refine done_ (by kernel_rfl) ?_
                            try go_wp2
                            go_ret
                            exact ⟨by first | rfl | (simp [errW_none, errW_some] <;> rfl) | (simp only [← hji45]; first | rfl | (simp [errW_none, errW_some] <;> rfl)) | (simp [*, errW_none, errW_some] <;> rfl), by repeat (first | (with_reducible first | exact HB.out | apply below_alloc | apply pw_below_drewN | apply below_drew1 | refine below_set ?_ GE467.out | refine below_set ?_ GE494.out) | exact HB.out)⟩
                           ·replace c82 := Bool.eq_false_iff.mpr c82
                            subst c82
                            have H1 : (some false) = some r := by rw [if_neg (show ¬ (false = true) by decide)] at H; exact H
                            clear H
                            have H := H1
                            clear H1
                            obtain rfl := Option.some.inj H
                            obtain ⟨Ao85, co85, eo85⟩ := Kd.R_slice HO_23.out
                            subst eo85
                            try go_wp2
                            have n0_ := Aside0.mk (Kd.R_drew HO_23.out)
                            have n1_ := Aside0.mk (blk_drew BK467.out)
                            have n2_ := Aside0.mk (blk_drew BK494.out)
                            have n3_ := Aside0.mk (below_drew1 HB.out)
                            clear HO_23
                            clear BK467
                            clear BK494
                            clear HB
                            have HO_23 := n0_
                            have BK467 := n1_
                            have BK494 := n2_
                            have HB := n3_
                            clear n0_ n1_ n2_ n3_
                            have p520 : 0 ≤ (x26_5 : Int) := od_
                            have q520 : x26_5 < (t513.length : Int) := od_
                            obtain ⟨ad520, e520, hx520_0, hx520_1, hx520_2⟩ := at_T51 (Kd.R_reads' HO_23.out).2.2 x26_5 p520 q520
                            cases e520
                            replace p520 := eq_true p520
                            replace q520 := eq_true q520
                            refine start_ (n := 6) (S := fun w' => w'.cell? ⟨gb494, 0, none⟩ = some (.int .i64 ((rd_T51 ((rd_T49 l1 (ji45)).f1) 0).f0)) ∧ w'.cell? ⟨gb494, 1, none⟩ = some (.int .i64 ((rd_T51 ((rd_T49 l1 (ji45)).f1) 0).f1)) ∧ w'.cell? ⟨gb494, 2, none⟩ = some (.int .i64 ((rd_T51 ((rd_T49 l1 (ji45)).f1) 0).f2)) ∧ w'.cell? (ad520.add ((x26_5).toNat * 3)) = some (.int .i64 ((rd_T51 t513 x26_5).f0)) ∧ w'.cell? ⟨(ad520.add ((x26_5).toNat * 3)).block, (ad520.add ((x26_5).toNat * 3)).off + 1, none⟩ = some (.int .i64 ((rd_T51 t513 x26_5).f1)) ∧ w'.cell? ⟨(ad520.add ((x26_5).toNat * 3)).block, (ad520.add ((x26_5).toNat * 3)).off + 2, none⟩ = some (.int .i64 ((rd_T51 t513 x26_5).f2))) (ds := []) #[n_, n_, n_, n_, n_, n_] (by kernel_rfl) rfl rfl ⟨(blk_cell BK494.out 0).trans rfl, (blk_cell BK494.out 1).trans rfl, (blk_cell BK494.out 2).trans rfl, hx520_0, hx520_1, hx520_2⟩ (fun hHeld => ?_)
                            generalize wr.drew = w86 at HO_23 BK467 BK494 HB hx520_0 hx520_1 hx520_2 hHeld ⊢
                            refine pv_ 0 157 (w_ 6 1) rfl ?_
                            refine pv_ 1 158 (w_ 6 3) rfl ?_
                            refine pv_ 2 159 (w_ 6 7) rfl ?_
                            refine tb_ 3 160 (w_ 6 15) rfl hHeld (by rintro w' ⟨s0, s1, s2, s3, s4, s5⟩; go_simp; with_reducible rfl) ?_
                            refine tb_ 4 161 (w_ 6 31) rfl hHeld (by rintro w' ⟨s0, s1, s2, s3, s4, s5⟩; go_simp; with_reducible rfl) ?_
                            refine pv_ 5 162 (w_ 6 63) rfl ?_
                            refine done_ (by kernel_rfl) ?_
                            try go_wp2
                            go_ret
                            exact ⟨by first | rfl | (simp [errW_none, errW_some] <;> rfl) | (simp only [← hji45]; first | rfl | (simp [errW_none, errW_some] <;> rfl)) | (simp [*, errW_none, errW_some] <;> rfl), by repeat (first | (with_reducible first | exact HB.out | apply below_alloc | apply pw_below_drewN | apply below_drew1 | refine below_set ?_ GE467.out | refine below_set ?_ GE494.out) | exact HB.out)⟩
                          ·rw [if_neg c81] at H
                           have c81b0 : (((rd_T51 t513 x26_5).f0) == ((rd_T51 ((rd_T49 l1 (ji45)).f1) 0).f0) && (((rd_T51 t513 x26_5).f1) == ((rd_T51 ((rd_T49 l1 (ji45)).f1) 0).f1) && (((rd_T51 t513 x26_5).f2) == ((rd_T51 ((rd_T49 l1 (ji45)).f1) 0).f2)))) = false := by simpa using c81
                           (try (have c81b1 : decide (((rd_T51 t513 x26_5).f0) = ((rd_T51 ((rd_T49 l1 (ji45)).f1) 0).f0) && (((rd_T51 t513 x26_5).f1) == ((rd_T51 ((rd_T49 l1 (ji45)).f1) 0).f1) && (((rd_T51 t513 x26_5).f2) == ((rd_T51 ((rd_T49 l1 (ji45)).f1) 0).f2)))) = false := by simpa using c81))
                           (try (have c81b2 : (((rd_T51 t513 x26_5).f0) == ((rd_T51 ((rd_T49 l1 (ji45)).f1) 0).f0) && (((rd_T51 t513 x26_5).f1) == ((rd_T51 ((rd_T49 l1 (ji45)).f1) 0).f1) && (((rd_T51 t513 x26_5).f2) == ((rd_T51 ((rd_T49 l1 (ji45)).f1) 0).f2)))) = false := by simpa using c81))
                           (try (have c81b3 : ¬ (((rd_T51 t513 x26_5).f0) = ((rd_T51 ((rd_T49 l1 (ji45)).f1) 0).f0) && (((rd_T51 t513 x26_5).f1) == ((rd_T51 ((rd_T49 l1 (ji45)).f1) 0).f1) && (((rd_T51 t513 x26_5).f2) == ((rd_T51 ((rd_T49 l1 (ji45)).f1) 0).f2)))) := by simpa using c81))
                           clear c81
                           have H' := Aside0.mk H
                           clear H
                           obtain ⟨Ao87, co87, eo87⟩ := Kd.R_slice HO_23.out
                           subst eo87
                           try go_wp2
                           have n0_ := Aside0.mk (Kd.R_drew HO_23.out)
                           have n1_ := Aside0.mk (blk_drew BK467.out)
                           have n2_ := Aside0.mk (blk_drew BK494.out)
                           have n3_ := Aside0.mk (below_drew1 HB.out)
                           clear HO_23
                           clear BK467
                           clear BK494
                           clear HB
                           have HO_23 := n0_
                           have BK467 := n1_
                           have BK494 := n2_
                           have HB := n3_
                           clear n0_ n1_ n2_ n3_
                           have p520 : 0 ≤ (x26_5 : Int) := od_
                           have q520 : x26_5 < (t513.length : Int) := od_
                           obtain ⟨ad520, e520, hx520_0, hx520_1, hx520_2⟩ := at_T51 (Kd.R_reads' HO_23.out).2.2 x26_5 p520 q520
                           cases e520
                           replace p520 := eq_true p520
                           replace q520 := eq_true q520
                           refine start_ (n := 6) (S := fun w' => w'.cell? ⟨gb494, 0, none⟩ = some (.int .i64 ((rd_T51 ((rd_T49 l1 (ji45)).f1) 0).f0)) ∧ w'.cell? ⟨gb494, 1, none⟩ = some (.int .i64 ((rd_T51 ((rd_T49 l1 (ji45)).f1) 0).f1)) ∧ w'.cell? ⟨gb494, 2, none⟩ = some (.int .i64 ((rd_T51 ((rd_T49 l1 (ji45)).f1) 0).f2)) ∧ w'.cell? (ad520.add ((x26_5).toNat * 3)) = some (.int .i64 ((rd_T51 t513 x26_5).f0)) ∧ w'.cell? ⟨(ad520.add ((x26_5).toNat * 3)).block, (ad520.add ((x26_5).toNat * 3)).off + 1, none⟩ = some (.int .i64 ((rd_T51 t513 x26_5).f1)) ∧ w'.cell? ⟨(ad520.add ((x26_5).toNat * 3)).block, (ad520.add ((x26_5).toNat * 3)).off + 2, none⟩ = some (.int .i64 ((rd_T51 t513 x26_5).f2))) (ds := []) #[n_, n_, n_, n_, n_, n_] (by kernel_rfl) rfl rfl ⟨(blk_cell BK494.out 0).trans rfl, (blk_cell BK494.out 1).trans rfl, (blk_cell BK494.out 2).trans rfl, hx520_0, hx520_1, hx520_2⟩ (fun hHeld => ?_)
                           generalize wr.drew = w88 at HO_23 BK467 BK494 HB hx520_0 hx520_1 hx520_2 hHeld ⊢
                           refine pv_ 0 157 (w_ 6 1) rfl ?_
                           refine pv_ 1 158 (w_ 6 3) rfl ?_
                           refine pv_ 2 159 (w_ 6 7) rfl ?_
                           refine tb_ 3 160 (w_ 6 15) rfl hHeld (by rintro w' ⟨s0, s1, s2, s3, s4, s5⟩; go_simp; with_reducible rfl) ?_
                           refine tb_ 4 161 (w_ 6 31) rfl hHeld (by rintro w' ⟨s0, s1, s2, s3, s4, s5⟩; go_simp; with_reducible rfl) ?_
                           refine pv_ 5 162 (w_ 6 63) rfl ?_
                           refine done_ (by kernel_rfl) ?_
                           try go_wp2
                           go_roundg k5
                           case measure => have := HJ6.out; have := HJ17.out; have := HJ25.out; have := HK4.out; have := HK5.out; omega
                           case rel => exact ⟨(wrap64 (x26_5 + 1)), sd_, H', ⟨by have := HJ6.out; have := HJ17.out; have := HJ25.out; have := HK4.out; have := HK5.out; omega⟩, ⟨by (with_reducible repeat (first | apply Kd.R_alloc | apply Kd.R_drewN | apply Kd.R_drew)); exact HO_23.out⟩, ⟨by (with_reducible repeat (first | refine blk_drewN ?_ _ | refine blk_drew ?_ | refine blk_alloc ?_ _)); exact BK467.out⟩, ⟨by (with_reducible repeat (first | refine blk_drewN ?_ _ | refine blk_drew ?_ | refine blk_alloc ?_ _)); exact BK494.out⟩, ⟨by repeat (first | (with_reducible first | exact HB.out | apply below_alloc | apply pw_below_drewN | apply below_drew1 | refine below_set ?_ GE467.out | refine below_set ?_ GE494.out) | exact HB.out)⟩⟩
                         ·rw [if_neg c80] at H
                          exact absurd H (by simp)
                        ·rw [if_neg c79] at H
                         have c79b0 : decide (x26_5 < (t513.length : Int)) = false := decide_eq_false c79
                         clear c79
                         by_cases c89 : t468 = true
                         ·subst c89
                          have H1 : (if t519 = 0 then (if (l1.length : Int) = 0 then (none) else (if 0 ≤ (Int.tmod (wrap64 (a4)) (l1.length : Int)) then (if (Int.tmod (wrap64 (a4)) (l1.length : Int)) < (l1.length : Int) then (if ((rd_T49 l1 (Int.tmod (wrap64 (a4)) (l1.length : Int))).f0 = true) then (some false) else (some (decide ((((rd_T49 l1 (Int.tmod (wrap64 (a4)) (l1.length : Int))).f1).length : Int) > 1)))) else (none)) else (none))) else (some false)) = some r := by rw [if_pos rfl] at H; exact H
                          clear H
                          have H := H1
                          clear H1
                          by_cases c90 : t519 = 0
                          ·rw [if_pos c90] at H
                           have c90b0 : (t519 == 0) = true := beq_iff_eq.mpr c90
                           have c90b1 : (t519 != 0) = false := bne_eq_false_iff_eq.mpr c90
                           clear c90
                           by_cases c91 : (l1.length : Int) = 0
                           ·rw [if_pos c91] at H
                            exact absurd H (by simp)
                           ·rw [if_neg c91] at H
                            have c91b0 : ((l1.length : Int) == 0) = false := beq_eq_false_iff_ne.mpr c91
                            have c91b1 : ((l1.length : Int) != 0) = true := bne_iff_ne.mpr c91
                            have c91b2 : ¬ (l1 = []) := fun h_ => c91 (by rw [h_]; rfl)
                            obtain ⟨ji92, hji92⟩ : ∃ j_ : Int, (Int.tmod (wrap64 (a4)) (l1.length : Int)) = j_ := ⟨_, rfl⟩
                            replace H : (if 0 ≤ (ji92) then (if (ji92) < (l1.length : Int) then (if ((rd_T49 l1 (ji92)).f0 = true) then (some false) else (some (decide ((((rd_T49 l1 (ji92)).f1).length : Int) > 1)))) else (none)) else (none)) = some r := by first | (rw [hji92] at H; exact H) | (simp only [hji92] at H ⊢; exact H)
                            by_cases c93 : 0 ≤ (ji92)
                            ·rw [if_pos c93] at H
                             have c93b0 : decide (0 ≤ (ji92)) = true := decide_eq_true c93
                             clear c93
                             by_cases c94 : (ji92) < (l1.length : Int)
                             ·rw [if_pos c94] at H
                              have c94b0 : decide ((ji92) < (l1.length : Int)) = true := decide_eq_true c94
                              clear c94
                              obtain ⟨bq95, hbq95⟩ : ∃ b_ : Bool, b_ = ((rd_T49 l1 (ji92)).f0) := ⟨_, rfl⟩
                              replace H : (if (bq95 = true) then (some false) else (some (decide ((((rd_T49 l1 (ji92)).f1).length : Int) > 1)))) = some r := by rw [← hbq95] at H; exact H
                              have Nbq95 := Aside0.mk hbq95
                              clear hbq95
                              by_cases c96 : (bq95 = true)
                              ·subst c96
                               have H1 : (some false) = some r := by rw [if_pos rfl] at H; exact H
                               clear H
                               have H := H1
                               clear H1
                               obtain rfl := Option.some.inj H
                               obtain ⟨Ao97, co97, eo97⟩ := Kd.R_slice HO_23.out
                               subst eo97
                               have p521 : 0 ≤ ((ji92) : Int) := od_
                               have q521 : (ji92) < (l1.length : Int) := od_
                               obtain ⟨ad521, A521_1, c521_1, e521, hx521_0, hx521_1, hl521_1, hi521_1⟩ := at_T49 HR1.out (ji92) p521 q521
                               (try rw [← Nbq95.out] at hx521_0)
                               obtain rfl : ad492 = ad521 := (by injection e521)
                               replace hx521_0 := (HB.out.cell (World.block_lt_of_cell? w _ hx521_0)).trans hx521_0
                               replace hx521_1 := (HB.out.cell (World.block_lt_of_cell? w _ hx521_1)).trans hx521_1
                               have HR521_1 := Aside0.mk hi521_1
                               have HC521_1 := Aside0.mk hl521_1
                               clear hi521_1 hl521_1
                               replace p521 := eq_true p521
                               replace q521 := eq_true q521
                               replace hji45 := hji92
                               go_wp2
                               go_ret
                               exact ⟨by first | rfl | (simp [errW_none, errW_some] <;> rfl) | (simp only [← hji45, ← hji92]; first | rfl | (simp [errW_none, errW_some] <;> rfl)) | (simp [*, errW_none, errW_some] <;> rfl), by repeat (first | (with_reducible first | exact HB.out | apply below_alloc | apply pw_below_drewN | apply below_drew1 | refine below_set ?_ GE467.out | refine below_set ?_ GE494.out) | exact HB.out)⟩
                              ·replace c96 := Bool.eq_false_iff.mpr c96
                               subst c96
                               have H1 : (some (decide ((((rd_T49 l1 (ji92)).f1).length : Int) > 1))) = some r := by rw [if_neg (show ¬ (false = true) by decide)] at H; exact H
                               clear H
                               have H := H1
                               clear H1
                               obtain rfl := Option.some.inj H
                               obtain ⟨Ao98, co98, eo98⟩ := Kd.R_slice HO_23.out
                               subst eo98
                               have p521 : 0 ≤ ((ji92) : Int) := od_
                               have q521 : (ji92) < (l1.length : Int) := od_
                               obtain ⟨ad521, A521_1, c521_1, e521, hx521_0, hx521_1, hl521_1, hi521_1⟩ := at_T49 HR1.out (ji92) p521 q521
                               (try rw [← Nbq95.out] at hx521_0)
                               obtain rfl : ad492 = ad521 := (by injection e521)
                               replace hx521_0 := (HB.out.cell (World.block_lt_of_cell? w _ hx521_0)).trans hx521_0
                               replace hx521_1 := (HB.out.cell (World.block_lt_of_cell? w _ hx521_1)).trans hx521_1
                               have HR521_1 := Aside0.mk hi521_1
                               have HC521_1 := Aside0.mk hl521_1
                               clear hi521_1 hl521_1
                               replace p521 := eq_true p521
                               replace q521 := eq_true q521
                               have p522 : 0 ≤ ((ji92) : Int) := od_
                               have q522 : (ji92) < (l1.length : Int) := od_
                               obtain ⟨ad522, A522_1, c522_1, e522, hx522_0, hx522_1, hl522_1, hi522_1⟩ := at_T49 HR1.out (ji92) p522 q522
                               (try rw [← Nbq95.out] at hx522_0)
                               obtain rfl : ad492 = ad522 := (by injection e522)
                               replace hx522_0 := (HB.out.cell (World.block_lt_of_cell? w _ hx522_0)).trans hx522_0
                               replace hx522_1 := (HB.out.cell (World.block_lt_of_cell? w _ hx522_1)).trans hx522_1
                               have HR522_1 := Aside0.mk hi522_1
                               have HC522_1 := Aside0.mk hl522_1
                               clear hi522_1 hl522_1
                               replace p522 := eq_true p522
                               replace q522 := eq_true q522
                               have ea_ := Option.some.inj (hx521_1.symm.trans hx522_1)
                               injection ea_ with ea_ en_ ec_
                               subst ea_
                               subst ec_
                               clear en_
                               replace hji45 := hji92
                               go_wp2
                               go_ret
                               exact ⟨by first | rfl | (simp [errW_none, errW_some] <;> rfl) | (simp only [← hji45, ← hji92]; first | rfl | (simp [errW_none, errW_some] <;> rfl)) | (simp [*, errW_none, errW_some] <;> rfl), by repeat (first | (with_reducible first | exact HB.out | apply below_alloc | apply pw_below_drewN | apply below_drew1 | refine below_set ?_ GE467.out | refine below_set ?_ GE494.out) | exact HB.out)⟩
                             ·rw [if_neg c94] at H
                              exact absurd H (by simp)
                            ·rw [if_neg c93] at H
                             exact absurd H (by simp)
                          ·rw [if_neg c90] at H
                           have c90b0 : (t519 == 0) = false := beq_eq_false_iff_ne.mpr c90
                           have c90b1 : (t519 != 0) = true := bne_iff_ne.mpr c90
                           obtain rfl := Option.some.inj H
                           obtain ⟨Ao99, co99, eo99⟩ := Kd.R_slice HO_23.out
                           subst eo99
                           go_wp2
                           go_ret
                           exact ⟨by first | rfl | (simp [errW_none, errW_some] <;> rfl) | (simp only [← hji45]; first | rfl | (simp [errW_none, errW_some] <;> rfl)) | (simp [*, errW_none, errW_some] <;> rfl), by repeat (first | (with_reducible first | exact HB.out | apply below_alloc | apply pw_below_drewN | apply below_drew1 | refine below_set ?_ GE467.out | refine below_set ?_ GE494.out) | exact HB.out)⟩
                         ·replace c89 := Bool.eq_false_iff.mpr c89
                          subst c89
                          have H1 : (some false) = some r := by rw [if_neg (show ¬ (false = true) by decide)] at H; exact H
                          clear H
                          have H := H1
                          clear H1
                          obtain rfl := Option.some.inj H
                          obtain ⟨Ao100, co100, eo100⟩ := Kd.R_slice HO_23.out
                          subst eo100
                          go_wp2
                          go_ret
                          exact ⟨by first | rfl | (simp [errW_none, errW_some] <;> rfl) | (simp only [← hji45]; first | rfl | (simp [errW_none, errW_some] <;> rfl)) | (simp [*, errW_none, errW_some] <;> rfl), by repeat (first | (with_reducible first | exact HB.out | apply below_alloc | apply pw_below_drewN | apply below_drew1 | refine below_set ?_ GE467.out | refine below_set ?_ GE494.out) | exact HB.out)⟩
                     ·rw [if_neg c63] at H
                      exact absurd H (by simp)
                    ·rw [if_neg c62] at H
                     exact absurd H (by simp)
                   ·rw [if_neg c61] at H
                    exact absurd H (by simp)
                  ·rw [if_neg c60] at H
                   exact absurd H (by simp)
              ·rw [if_neg c48] at H
               exact absurd H (by simp)
             ·rw [if_neg c47] at H
              exact absurd H (by simp)
            ·rw [if_neg c46] at H
             exact absurd H (by simp)
       ·rw [if_neg c24] at H
        exact absurd H (by simp)
      ·rw [if_neg c23] at H
       exact absurd H (by simp)
end
end Go.Proofs.Ytocbiggglnpeoaa.P
end
