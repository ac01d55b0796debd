/- Part 4 of the base that the seat's proofs share: words, walks and plain laws. -/
import Derived.Test.YtmhimmodigeeiaaCBc
set_option linter.unusedVariables false
set_option linter.unusedSimpArgs false
section
namespace Go.Proofs.Ytmhimmodigeeiaa.P
open Go.RowKit Go.Proofs.YtmhimmodigeeiaaW.PrintWords Go.Proofs.YtmhimmodigeeiaaW.PrintLast Go.Proofs.YtmhimmodigeeiaaW.PrintMore
attribute [local go_sem] max2_int min2_int max_two min_two max_three min_three max_four min_four
set_option linter.unusedVariables false
set_option linter.unusedSimpArgs false
set_option maxHeartbeats 8000000
set_option maxRecDepth 100000
section
def piecewise_At.j0 : Nat → List (S51) → Int → Bool → Option (Int × Int × Int)
 | 0, _, _, _ => none
 | k + 1, x0, x1, x18 => if x18 = true then (some (0, 0, 1)) else ((piecewise_find.f x0 x1).bind fun bt121 => ((piecewise_line_at.f bt121.1 bt121.2.1 bt121.2.2.1 bt121.2.2.2 x1).bind fun t126 => ((piecewise_lowest.f k t126 bt121.2.2.1).bind fun bt127 => ((rational_Valid.f bt127.1 bt127.2).bind fun t130 => (if t130 = true then (some (bt127.1, bt127.2, 0)) else (some (0, 0, 3)))))))
def piecewise_At.f (k : Nat) (l0 : List (S51)) (a1 : Int) : Option (Int × Int × Int) := (piecewise_Valid.f k l0).bind fun t120 => (if t120 = true then (if a1 < 0 then (piecewise_At.j0 k l0 a1 true) else (piecewise_At.j0 k l0 a1 (decide (a1 > 100000)))) else (piecewise_At.j0 k l0 a1 true))
theorem piecewise_At.mono_l : ∀ k, (∀ y0 y1 y2, LeO (piecewise_At.j0 k y0 y1 y2) (piecewise_At.j0 (k + 1) y0 y1 y2))
 | 0 => fun _ _ _ r h => by simp [piecewise_At.j0] at h
 | k + 1 => by
  have ih0 := piecewise_At.mono_l k
  ·intro y0 y1 y2
   unfold piecewise_At.j0
   repeat' first
   | (with_reducible exact ih0 _ _ _)
   | (with_reducible exact piecewise_Valid.mono _ _)
   | (with_reducible exact piecewise_lowest.mono _ _ _)
   | (with_reducible exact LeO.refl _)
   | (with_reducible exact LeO.none _)
   | (with_reducible refine LeO.ite ?_ ?_)
   | (with_reducible refine LeO.bind ?_ (fun _ => ?_))
   | exact ih0 _ _ _
   | exact piecewise_Valid.mono _ _
   | exact piecewise_lowest.mono _ _ _
   | exact LeO.none _
   | refine LeO.ite ?_ ?_
   | refine LeO.bind ?_ (fun _ => ?_)
theorem piecewise_At.mono : ∀ a0 a1 k, LeO (piecewise_At.f k a0 a1) (piecewise_At.f (k + 1) a0 a1) := by
 intro a0 a1 k
 have ih0 := piecewise_At.mono_l k
 unfold piecewise_At.f
 repeat' first
   | (with_reducible exact ih0 _ _ _)
   | (with_reducible exact piecewise_Valid.mono _ _)
   | (with_reducible exact piecewise_lowest.mono _ _ _)
   | (with_reducible exact LeO.refl _)
   | (with_reducible exact LeO.none _)
   | (with_reducible refine LeO.ite ?_ ?_)
   | (with_reducible refine LeO.bind ?_ (fun _ => ?_))
   | exact ih0 _ _ _
   | exact piecewise_Valid.mono _ _
   | exact piecewise_lowest.mono _ _ _
   | exact LeO.none _
   | refine LeO.ite ?_ ?_
   | refine LeO.bind ?_ (fun _ => ?_)
def piecewise_At.T4 : Bool × List (List Nat × List Nat) := (true, [([], []), ([], []), ([0, 1], [0, 1]), ([], []), ([3], [3]), ([2, 4, 2], [2, 4]), ([], []), ([6, 5, 5, 0, 1, 2, 3, 4, 5, 6], [5, 6])])
def piecewise_At.B4 : List Nat := [0, 0, 3, 0, 8, 31, 0, 127]
theorem piecewise_At.tab4 : rtab .any (opsOf Try.f12 4) = piecewise_At.T4 := by kernel_rfl
theorem piecewise_At.bits4 : waitsOk piecewise_At.T4.2 piecewise_At.B4 = true := by kernel_rfl
theorem piecewise_At.calls (k : Nat) (A0 : Option Addr) (c0 : Nat) (l0 : List (S51)) (a1 : Int) (r1 : Int) (r2 : Int) (r3 : Int) (w : World) (hr0 : Kd.C k51 w A0 l0.length l0) (hc0 : l0.length ≤ c0) (h : piecewise_At.f k l0 a1 = some (r1, r2, r3)) :
  Calls Try.prog 12 #[.slice A0 l0.length c0, .int .i64 a1] w fun e w' => e = .returned (.tuple #[.agg #[.int .i64 r1, .int .i64 r2], .int .i64 r3]) ∧ Below w.heap.size w w' := by
 have hu24 := Try.underlying24
 have hu54 := Try.underlying54
 have HR0 := mk_ hr0
 have HC0 := mk_ hc0
 clear hr0 hc0
 have HB := mk_ (Below.refl w.heap.size w)
 have H : ((piecewise_Valid.f k l0).bind fun t120 => (if t120 = true then (if a1 < 0 then (piecewise_At.j0 k l0 a1 true) else (piecewise_At.j0 k l0 a1 (decide (a1 > 100000)))) else (piecewise_At.j0 k l0 a1 true))) = some (r1, r2, r3) := h
 clear h
 have HC3 := mk_ H
 clear H
 go_enter Try.func12, Try.ntmps12
 go_upto_region 1 with (first | ((with_reducible refine gate_dst (N := 4) rfl ?_); refine box_event ?hg (N := 4) ?hd (cs := #[.int .i64 0, .int .i64 0]) (t := 24) ?hr ?_; (case hd => rfl); (case hg => rfl); (case hr => first | (go_simp; done) | (go_simp; rfl)); intro gb119 hg w4 hbox hb; have n0_ := mk_ (below_step (bb_ HB) hb); have n1_ := mk_ (hbox); have n2_ := mk_ (bz_ hg (bb_ HB)); have n3_ := mk_ (bz_ hg (bb_ HB)); clear HB; revert n0_ n1_ n2_ n3_; intro HB BK119 GW119 GE119; clear hb hbox hg))
 (try simp only [Act.put, sI_, s0_, sS_])
 go_cut [18] (fun v18 wc => ∃ (kq : Nat) (x18_2 : Bool), v18 = .bool x18_2 ∧ Aside0 (piecewise_At.j0 kq l0 a1 x18_2 = some (r1, r2, r3)) ∧ Aside0 (kq ≤ k) ∧ Aside0 (wc.heap[gb119]? = some (.cells #[.int .i64 0, .int .i64 0] 24 (0, 0))) ∧ Aside0 (Below w.heap.size w wc))
 case first =>
  have H := HC3.out
  clear HC3
  replace H := Option.bind_eq_some_iff.mp H
  obtain ⟨t120, A50, H⟩ := H
  replace H : (if t120 = true then (if a1 < 0 then (piecewise_At.j0 k l0 a1 true) else (piecewise_At.j0 k l0 a1 (decide (a1 > 100000)))) else (piecewise_At.j0 k l0 a1 true)) = some (r1, r2, r3) := H
  have A5 := mk_ A50
  clear A50
  by_cases c6 : t120 = true
  rotate_left
  ·replace c6 := Bool.eq_false_iff.mpr c6
   subst c6
   have H1 : (piecewise_At.j0 k l0 a1 true) = some (r1, r2, r3) := by rw [if_neg (show ¬ (false = true) by decide)] at H; exact H
   clear H
   have H := H1
   clear H1
   have H' := mk_ H
   clear H
   go_wp2_with (first | ((with_reducible refine gate_callee (f := 14) rfl ?_); refine gl_ (some 9) Try.func14 #[.slice A0 l0.length c0] ?_; (with_reducible refine (piecewise_Valid.calls k _ _ l0 false _ ?side1 ?side2 A5.out).mono ?_); (case side1 => exact cc_ ((Kd.C_below HR0.out HB.out))); (case side2 => exact HC0.out); rintro e w10 ⟨rfl, hb⟩; refine ⟨_, rfl, ?_⟩; have n0_ := mk_ (blk_below (kk_ BK119) hb); have n1_ := mk_ (below_step (bs_ HB GE119.out) hb); clear BK119 HB; revert n0_ n1_; intro BK119 HB; (try clear hb); (try clear hb2); (try clear hk); (try clear hi)))
   go_meet
   case rel => exact ⟨_, (true), sd_, H', ⟨by first | omega | exact Nat.le_refl _⟩, ⟨kk_ BK119⟩, ⟨bs1_ HB GE119⟩⟩
  subst c6
  have H1 : (if a1 < 0 then (piecewise_At.j0 k l0 a1 true) else (piecewise_At.j0 k l0 a1 (decide (a1 > 100000)))) = some (r1, r2, r3) := by rw [if_pos rfl] at H; exact H
  clear H
  have H := H1
  clear H1
  by_cases c7 : a1 < 0
  rotate_left
  ·rw [if_neg c7] at H
   have c7b0 : decide (a1 < 0) = false := decide_eq_false c7
   clear c7
   (first | rw [c7b0] | (simp only [i64_w, i32_w]; rw [c7b0]) | skip)
   have H' := mk_ H
   clear H
   go_wp2_with (first | ((with_reducible refine gate_callee (f := 14) rfl ?_); refine gl_ (some 9) Try.func14 #[.slice A0 l0.length c0] ?_; (with_reducible refine (piecewise_Valid.calls k _ _ l0 true _ ?side1 ?side2 A5.out).mono ?_); (case side1 => exact cc_ ((Kd.C_below HR0.out HB.out))); (case side2 => exact HC0.out); rintro e w9 ⟨rfl, hb⟩; refine ⟨_, rfl, ?_⟩; have n0_ := mk_ (blk_below (kk_ BK119) hb); have n1_ := mk_ (below_step (bs_ HB GE119.out) hb); clear BK119 HB; revert n0_ n1_; intro BK119 HB; (try clear hb); (try clear hb2); (try clear hk); (try clear hi)))
   go_meet
   case rel => exact ⟨_, (decide (a1 > 100000)), sd_, H', ⟨by first | omega | exact Nat.le_refl _⟩, ⟨kk_ BK119⟩, ⟨bs1_ HB GE119⟩⟩
  rw [if_pos c7] at H
  have c7b0 : decide (a1 < 0) = true := decide_eq_true c7
  clear c7
  (first | rw [c7b0] | (simp only [i64_w, i32_w]; rw [c7b0]) | skip)
  have H' := mk_ H
  clear H
  go_wp2_with (first | ((with_reducible refine gate_callee (f := 14) rfl ?_); refine gl_ (some 9) Try.func14 #[.slice A0 l0.length c0] ?_; (with_reducible refine (piecewise_Valid.calls k _ _ l0 true _ ?side1 ?side2 A5.out).mono ?_); (case side1 => exact cc_ ((Kd.C_below HR0.out HB.out))); (case side2 => exact HC0.out); rintro e w8 ⟨rfl, hb⟩; refine ⟨_, rfl, ?_⟩; have n0_ := mk_ (blk_below (kk_ BK119) hb); have n1_ := mk_ (below_step (bs_ HB GE119.out) hb); clear BK119 HB; revert n0_ n1_; intro BK119 HB; (try clear hb); (try clear hb2); (try clear hk); (try clear hi)))
  go_meet
  case rel => exact ⟨_, (true), sd_, H', ⟨by first | omega | exact Nat.le_refl _⟩, ⟨kk_ BK119⟩, ⟨bs1_ HB GE119⟩⟩
 case rest =>
  clear HC3
  try clear c1; try clear p2; try clear c6; try clear c7; try clear c7b0
  obtain ⟨kq, x18_2, rfl, HA, HJ2, BK119, HB⟩ := hcut
  cases kq with
  | zero => exact absurd HA.out (by simp [piecewise_At.j0])
  | succ kj2 =>
   have H := HA.out
   clear HA
   simp only [piecewise_At.j0] at H
   by_cases c11 : x18_2 = true
   ·subst c11
    have H1 : (some (0, 0, 1)) = some (r1, r2, r3) := by rw [if_pos rfl] at H; exact H
    clear H
    have H := H1
    clear H1
    simp only [Option.some.injEq, Prod.mk.injEq] at H
    obtain ⟨rfl, rfl, rfl⟩ := H
    have hcz12_0 := bc0_ BK119.out
    have hcz12_1 := bc1_ BK119.out
    have hfz12_0 := blk_frozen BK119.out 0
    have hfz12_1 := blk_frozen BK119.out 1
    go_wp2
    refine bodyPost_ret (results_ct rfl _ _ gb119 24 #[.int .i64 0, .int .i64 0] (0, 0) _ rfl (by (with_reducible repeat (first | refine blk_drewN ?_ _ | refine blk_drew ?_ | refine blk_alloc ?_ _)); refine blk_put (cs := #[.int .i64 0, .int .i64 0]) ?_ 1 _ rfl; (with_reducible repeat (first | refine blk_drewN ?_ _ | refine blk_drew ?_ | refine blk_alloc ?_ _)); refine blk_put (cs := #[.int .i64 0, .int .i64 0]) ?_ 0 _ rfl; (with_reducible repeat (first | refine blk_drewN ?_ _ | refine blk_drew ?_ | refine blk_alloc ?_ _)); exact BK119.out) Try.underlying24 rfl (by kernel_rfl)) rfl ?_
    exact ⟨ew_, bs1_ HB GE119⟩
   replace c11 := Bool.eq_false_iff.mpr c11
   subst c11
   have H1 : ((piecewise_find.f l0 a1).bind fun bt121 => ((piecewise_line_at.f bt121.1 bt121.2.1 bt121.2.2.1 bt121.2.2.2 a1).bind fun t126 => ((piecewise_lowest.f kj2 t126 bt121.2.2.1).bind fun bt127 => ((rational_Valid.f bt127.1 bt127.2).bind fun t130 => (if t130 = true then (some (bt127.1, bt127.2, 0)) else (some (0, 0, 3))))))) = some (r1, r2, r3) := by rw [if_neg (show ¬ (false = true) by decide)] at H; exact H
   clear H
   have H := H1
   clear H1
   replace H := Option.bind_eq_some_iff.mp H
   obtain ⟨⟨t121, t122, t123, t124⟩, A130, H⟩ := H
   replace H : ((piecewise_line_at.f t121 t122 t123 t124 a1).bind fun t126 => ((piecewise_lowest.f kj2 t126 t123).bind fun bt127 => ((rational_Valid.f bt127.1 bt127.2).bind fun t130 => (if t130 = true then (some (bt127.1, bt127.2, 0)) else (some (0, 0, 3)))))) = some (r1, r2, r3) := H
   have A13 := mk_ A130
   clear A130
   replace H := Option.bind_eq_some_iff.mp H
   obtain ⟨t126, A140, H⟩ := H
   replace H : ((piecewise_lowest.f kj2 t126 t123).bind fun bt127 => ((rational_Valid.f bt127.1 bt127.2).bind fun t130 => (if t130 = true then (some (bt127.1, bt127.2, 0)) else (some (0, 0, 3))))) = some (r1, r2, r3) := H
   have A14 := mk_ A140
   clear A140
   replace H := Option.bind_eq_some_iff.mp H
   obtain ⟨⟨t127, t128⟩, A150, H⟩ := H
   replace H : ((rational_Valid.f t127 t128).bind fun t130 => (if t130 = true then (some (t127, t128, 0)) else (some (0, 0, 3)))) = some (r1, r2, r3) := H
   have A15 := mk_ A150
   clear A150
   replace H := Option.bind_eq_some_iff.mp H
   obtain ⟨t130, A160, H⟩ := H
   replace H : (if t130 = true then (some (t127, t128, 0)) else (some (0, 0, 3))) = some (r1, r2, r3) := H
   have A16 := mk_ A160
   clear A160
   by_cases c17 : t130 = true
   ·subst c17
    have H1 : (some (t127, t128, 0)) = some (r1, r2, r3) := by rw [if_pos rfl] at H; exact H
    clear H
    have H := H1
    clear H1
    simp only [Option.some.injEq, Prod.mk.injEq] at H
    obtain ⟨rfl, rfl, rfl⟩ := H
    try go_wp2_with (first | ((with_reducible refine gate_callee (f := 34) rfl ?_); refine gl_ (some 22) Try.func34 #[.slice A0 l0.length c0, .int .i64 a1] ?_; (with_reducible refine (piecewise_find.calls _ _ l0 a1 t121 t122 t123 t124 _ ?side1 ?side2 A13.out).mono ?_); (case side1 => exact cc_ ((Kd.C_below HR0.out HB.out))); (case side2 => exact HC0.out); rintro e w18 ⟨rfl, hb⟩; refine ⟨_, rfl, ?_⟩; have n0_ := mk_ (blk_below (kk_ BK119) hb); have n1_ := mk_ (below_step (bs_ HB GE119.out) hb); clear BK119 HB; revert n0_ n1_; intro BK119 HB; (try clear hb); (try clear hb2); (try clear hk); (try clear hi)) | ((with_reducible refine gate_dst (N := 6) rfl ?_); refine box_event ?hg (N := 6) ?hd (cs := #[.int .i64 0, .int .i64 0, .int .i64 0, .int .i64 0]) (t := 54) ?hr ?_; (case hd => rfl); (case hg => rfl); (case hr => first | (go_simp; done) | (go_simp; rfl)); intro gb125 hg w19 hbox hb; have n0_ := mk_ (blk_below (kk_ BK119) hb); have n1_ := mk_ (below_step (bs_ HB GE119.out) hb); have n2_ := mk_ (hbox); have n3_ := mk_ (bz_ hg (bs_ HB GE119.out)); have n4_ := mk_ (bz_ hg (bs_ HB GE119.out)); have n5_ := mk_ (bl_ hg (kk_ BK119)); have n6_ := mk_ (bg_ hg (kk_ BK119)); clear BK119 HB; revert n0_ n1_ n2_ n3_ n4_ n5_ n6_; intro BK119 HB BK125 GW125 GE125 NB119_125 NB125_119; clear hb hbox hg; have hnb20 := NB125_119.out; have hnc20 := NB119_125.out; have hcz21_0 := bc0_ BK125.out; have hcz21_1 := bc1_ BK125.out; have hcz21_2 := bc2_ BK125.out; have hcz21_3 : w19.cell? ⟨gb125, 3, none⟩ = some (.int .i64 0) := (blk_cell BK125.out 3).trans rfl; have hfz21_0 := blk_frozen BK125.out 0; have hfz21_1 := blk_frozen BK125.out 1; have hfz21_2 := blk_frozen BK125.out 2; have hfz21_3 := blk_frozen BK125.out 3))
    have n0_ : Aside0 (((((w19.setCell ⟨gb125, 0, none⟩ (.int .i64 t121)).setCell ⟨gb125, 1, none⟩ (.int .i64 t122)).setCell ⟨gb125, 2, none⟩ (.int .i64 t123)).setCell ⟨gb125, 3, none⟩ (.int .i64 t124)).heap[gb119]? = some (.cells #[.int .i64 0, .int .i64 0] 24 (0, 0))) := ⟨by (with_reducible repeat (first | refine blk_drewN ?_ _ | refine blk_drew ?_ | refine blk_alloc ?_ _)); refine blk_far ?_ NB119_125.out _; (with_reducible repeat (first | refine blk_drewN ?_ _ | refine blk_drew ?_ | refine blk_alloc ?_ _)); refine blk_far ?_ NB119_125.out _; (with_reducible repeat (first | refine blk_drewN ?_ _ | refine blk_drew ?_ | refine blk_alloc ?_ _)); refine blk_far ?_ NB119_125.out _; (with_reducible repeat (first | refine blk_drewN ?_ _ | refine blk_drew ?_ | refine blk_alloc ?_ _)); refine blk_far ?_ NB119_125.out _; (with_reducible repeat (first | refine blk_drewN ?_ _ | refine blk_drew ?_ | refine blk_alloc ?_ _)); exact BK119.out⟩
    have n1_ : Aside0 (((((w19.setCell ⟨gb125, 0, none⟩ (.int .i64 t121)).setCell ⟨gb125, 1, none⟩ (.int .i64 t122)).setCell ⟨gb125, 2, none⟩ (.int .i64 t123)).setCell ⟨gb125, 3, none⟩ (.int .i64 t124)).heap[gb125]? = some (.cells #[.int .i64 t121, .int .i64 t122, .int .i64 t123, .int .i64 t124] 54 (0, 0))) := ⟨by (with_reducible repeat (first | refine blk_drewN ?_ _ | refine blk_drew ?_ | refine blk_alloc ?_ _)); refine blk_put (cs := #[.int .i64 t121, .int .i64 t122, .int .i64 t123, .int .i64 0]) ?_ 3 _ rfl; (with_reducible repeat (first | refine blk_drewN ?_ _ | refine blk_drew ?_ | refine blk_alloc ?_ _)); refine blk_put (cs := #[.int .i64 t121, .int .i64 t122, .int .i64 0, .int .i64 0]) ?_ 2 _ rfl; (with_reducible repeat (first | refine blk_drewN ?_ _ | refine blk_drew ?_ | refine blk_alloc ?_ _)); refine blk_put (cs := #[.int .i64 t121, .int .i64 0, .int .i64 0, .int .i64 0]) ?_ 1 _ rfl; (with_reducible repeat (first | refine blk_drewN ?_ _ | refine blk_drew ?_ | refine blk_alloc ?_ _)); refine blk_put (cs := #[.int .i64 0, .int .i64 0, .int .i64 0, .int .i64 0]) ?_ 0 _ rfl; (with_reducible repeat (first | refine blk_drewN ?_ _ | refine blk_drew ?_ | refine blk_alloc ?_ _)); exact BK125.out⟩
    have n2_ : Aside0 (Below w.heap.size w ((((w19.setCell ⟨gb125, 0, none⟩ (.int .i64 t121)).setCell ⟨gb125, 1, none⟩ (.int .i64 t122)).setCell ⟨gb125, 2, none⟩ (.int .i64 t123)).setCell ⟨gb125, 3, none⟩ (.int .i64 t124))) := ⟨bs2_ HB GE119 GE125⟩
    (try clear BK119)
    (try clear BK125)
    (try clear HB)
    generalize ((((w19.setCell ⟨gb125, 0, none⟩ (.int .i64 t121)).setCell ⟨gb125, 1, none⟩ (.int .i64 t122)).setCell ⟨gb125, 2, none⟩ (.int .i64 t123)).setCell ⟨gb125, 3, none⟩ (.int .i64 t124)) = w22 at n0_ n1_ n2_ ⊢
    have BK119 := n0_
    have BK125 := n1_
    have HB := n2_
    clear n0_ n1_ n2_
    have n0_ := mk_ (blk_drew BK119.out)
    have n1_ := mk_ (blk_drew BK125.out)
    have n2_ := mk_ (below_drew1 HB.out)
    clear BK119
    clear BK125
    clear HB
    have BK119 := n0_
    have BK125 := n1_
    have HB := n2_
    clear n0_ n1_ n2_
    refine start_ (n := 8) (S := fun w' => w'.cell? ⟨gb125, 0, none⟩ = some (.int .i64 t121) ∧ w'.cell? ⟨gb125, 1, none⟩ = some (.int .i64 t122) ∧ w'.cell? ⟨gb125, 2, none⟩ = some (.int .i64 t123) ∧ w'.cell? ⟨gb125, 3, none⟩ = some (.int .i64 t124)) (ds := []) #[n_, n_, n_, n_, n_, n_, n_, n_] (by kernel_rfl) rfl rfl ⟨(blk_cell BK125.out 0).trans rfl, (blk_cell BK125.out 1).trans rfl, (blk_cell BK125.out 2).trans rfl, (blk_cell BK125.out 3).trans rfl⟩ (fun hHeld => ?_); refine with_tabW piecewise_At.tab4 piecewise_At.bits4 (fun HT_ HW_ => ?_)
    generalize w22.drew = w23 at BK119 BK125 HB hHeld ⊢
    refine pu_ 1 24 (w_ 8 2) rfl HT_ ?_
    refine pu_ 3 26 (w_ 8 10) rfl HT_ ?_
    refine ta_ 0 23 (w_ 8 11) rfl HT_ HW_ hHeld (by rintro w' ⟨s0, s1, s2, s3⟩; go_simp; with_reducible rfl) ?_
    refine ta_ 4 27 (w_ 8 27) rfl HT_ HW_ hHeld (by rintro w' ⟨s0, s1, s2, s3⟩; go_simp; with_reducible rfl) ?_
    refine join_ (σ := Nat) 1 #[y_, y_, y_, y_, y_, y_, y_, n_] (fun s_ => [(25, .int .i64 t126), (28, .agg #[.int .i64 t127, .int .i64 t128]), (7, .pointer (some ⟨s_, 0, none⟩))]) (fun s_ w' => (w'.cell? ⟨gb125, 0, none⟩ = some (.int .i64 t121) ∧ w'.cell? ⟨gb125, 1, none⟩ = some (.int .i64 t122) ∧ w'.cell? ⟨gb125, 2, none⟩ = some (.int .i64 t123) ∧ w'.cell? ⟨gb125, 3, none⟩ = some (.int .i64 t124)) ∧ (w'.heap[gb119]? = some (.cells #[.int .i64 0, .int .i64 0] 24 (0, 0))) ∧ (w'.heap[gb125]? = some (.cells #[.int .i64 t121, .int .i64 t122, .int .i64 t123, .int .i64 t124] 54 (0, 0))) ∧ (w'.heap[s_]? = some (.cells #[.int .i64 0, .int .i64 0] 24 (0, 0))) ∧ (w.heap.size ≤ s_) ∧ (w.heap.size ≤ s_) ∧ (gb119 ≠ s_) ∧ (s_ ≠ gb119) ∧ (gb125 ≠ s_) ∧ (s_ ≠ gb125) ∧ (Below w.heap.size w w')) ?_ ?_
    rotate_left
    ·intro hCont
     refine two_ (i := 2) (j := 6) (Ni := some 25) (Nj := some 7) #[y_, y_, y_, y_, y_, n_, n_, n_] #[y_, y_, n_, y_, y_, n_, y_, n_] rfl rfl rfl rfl (two_of HT_.out (by kernel_rfl)) (by decide) (by decide) (fun K hK => ?_) (fun K hK => ?_)
     ·skip
      refine goes_ Try.func36 (by kernel_rfl) rfl #[.agg #[.int .i64 t121, .int .i64 t122, .int .i64 t123, .int .i64 t124], .int .i64 a1] (by rfl) rfl rfl (by (try simp only [List.map_toArray, List.map_cons, List.map_nil]); first | done | rfl | (simp only [List.length_drop, List.length_take]; rfl)) ?_
      with_reducible refine (piecewise_line_at.calls t121 t122 t123 t124 a1 t126 _ A14.out).mono ?_
      rintro e w24 ⟨rfl, hb⟩
      refine ⟨_, rfl, ?_⟩
      have n0_ := mk_ (blk_below (kk_ BK119) hb)
      have n1_ := mk_ (blk_below (kk_ BK125) hb)
      have n2_ := mk_ (below_step (bs2_ HB GE119 GE125) hb)
      clear BK119
      clear BK125
      clear HB
      have BK119 := n0_
      have BK125 := n1_
      have HB := n2_
      clear n0_ n1_ n2_
      (try clear hb)
      (try clear hb2)
      (try clear hk)
      (try clear hi)
      refine hK.out _ _ ⟨(blk_cell BK125.out 0).trans rfl, (blk_cell BK125.out 1).trans rfl, (blk_cell BK125.out 2).trans rfl, (blk_cell BK125.out 3).trans rfl⟩ (fun hHeld => ?_)
      clear hK K
      refine norm_ (a' := ?_) ?_ ?_
      rotate_left
      ·show Act.put _ (some 25) _ = _
       simp only [Act.put, sI_, s0_, sS_, i64_w, i32_w]
       rfl
      refine two_ (i := 5) (j := 6) (Ni := some 28) (Nj := some 7) #[y_, y_, y_, y_, y_, y_, n_, n_] #[y_, y_, y_, y_, y_, n_, y_, n_] rfl rfl rfl rfl (two_of HT_.out (by kernel_rfl)) (by decide) (by decide) (fun K hK => ?_) (fun K hK => ?_)
      ·skip
       refine goes_ Try.func35 (by kernel_rfl) rfl #[.int .i64 t126, .int .i64 t123] (by rfl) rfl rfl (by (try simp only [List.map_toArray, List.map_cons, List.map_nil]); first | done | rfl | (simp only [List.length_drop, List.length_take]; rfl)) ?_
       with_reducible refine (piecewise_lowest.calls kj2 t126 t123 t127 t128 _ A15.out).mono ?_
       rintro e w25 ⟨rfl, hb⟩
       refine ⟨_, rfl, ?_⟩
       have n0_ := mk_ (blk_below (kk_ BK119) hb)
       have n1_ := mk_ (blk_below (kk_ BK125) hb)
       have n2_ := mk_ (below_step (bs2_ HB GE119 GE125) hb)
       clear BK119
       clear BK125
       clear HB
       have BK119 := n0_
       have BK125 := n1_
       have HB := n2_
       clear n0_ n1_ n2_
       (try clear hb)
       (try clear hb2)
       (try clear hk)
       (try clear hi)
       refine hK.out _ _ ⟨(blk_cell BK125.out 0).trans rfl, (blk_cell BK125.out 1).trans rfl, (blk_cell BK125.out 2).trans rfl, (blk_cell BK125.out 3).trans rfl⟩ (fun hHeld => ?_)
       clear hK K
       refine norm_ (a' := ?_) ?_ ?_
       rotate_left
       ·show Act.put _ (some 28) _ = _
        simp only [Act.put, sI_, s0_, sS_, i64_w, i32_w]
        rfl
       refine one_ (i := 6) (N := some 7) (w_ 8 127) rfl rfl (one_of HT_.out (by kernel_rfl)) (by decide) (fun K hK => ?_)
       refine box_step ?hg (N := 7) ?hd (cs := #[.int .i64 0, .int .i64 0]) (t := 24) ?hr ?_; (case hd => rfl); (case hg => rfl); (case hr => first | (go_simp; done) | (go_simp; rfl))
       intro gb129 hg w26 hbox hb
       have n0_ := mk_ (blk_below (kk_ BK119) hb)
       have n1_ := mk_ (blk_below (kk_ BK125) hb)
       have n2_ := mk_ (below_step (bs2_ HB GE119 GE125) hb)
       have n3_ := mk_ (hbox)
       have n4_ := mk_ (bz_ hg (bs2_ HB GE119 GE125))
       have n5_ := mk_ (bz_ hg (bs2_ HB GE119 GE125))
       have n6_ := mk_ (bl_ hg (kk_ BK119))
       have n7_ := mk_ (bg_ hg (kk_ BK119))
       have n8_ := mk_ (bl_ hg (kk_ BK125))
       have n9_ := mk_ (bg_ hg (kk_ BK125))
       clear BK119
       clear BK125
       clear HB
       have BK119 := n0_
       have BK125 := n1_
       have HB := n2_
       have BK129 := n3_
       have GW129 := n4_
       have GE129 := n5_
       have NB119_129 := n6_
       have NB129_119 := n7_
       have NB125_129 := n8_
       have NB129_125 := n9_
       clear n0_ n1_ n2_ n3_ n4_ n5_ n6_ n7_ n8_ n9_
       clear hb hbox hg
       refine hK.out _ _ ⟨(blk_cell BK125.out 0).trans rfl, (blk_cell BK125.out 1).trans rfl, (blk_cell BK125.out 2).trans rfl, (blk_cell BK125.out 3).trans rfl⟩ (fun hHeld => ?_)
       clear hK K
       refine norm_ (a' := ?_) ?_ ?_
       rotate_left
       ·show Act.put _ (some 7) _ = _
        simp only [Act.put, sI_, s0_, sS_, i64_w, i32_w]
        rfl
       exact norm_ (by simp only [putAll, Act.put, sI_, s0_, sS_]) (hCont (gb129) _ ⟨hHeld, (kk_ BK119), (kk_ BK125), (kk_ BK129), GW129.out, GE129.out, NB119_129.out, NB129_119.out, NB125_129.out, NB129_125.out, (bs3_ HB GE119 GE125 GE129)⟩)
      ·skip
       refine box_step ?hg (N := 7) ?hd (cs := #[.int .i64 0, .int .i64 0]) (t := 24) ?hr ?_; (case hd => rfl); (case hg => rfl); (case hr => first | (go_simp; done) | (go_simp; rfl))
       intro gb129 hg w25 hbox hb
       have n0_ := mk_ (blk_below (kk_ BK119) hb)
       have n1_ := mk_ (blk_below (kk_ BK125) hb)
       have n2_ := mk_ (below_step (bs2_ HB GE119 GE125) hb)
       have n3_ := mk_ (hbox)
       have n4_ := mk_ (bz_ hg (bs2_ HB GE119 GE125))
       have n5_ := mk_ (bz_ hg (bs2_ HB GE119 GE125))
       have n6_ := mk_ (bl_ hg (kk_ BK119))
       have n7_ := mk_ (bg_ hg (kk_ BK119))
       have n8_ := mk_ (bl_ hg (kk_ BK125))
       have n9_ := mk_ (bg_ hg (kk_ BK125))
       clear BK119
       clear BK125
       clear HB
       have BK119 := n0_
       have BK125 := n1_
       have HB := n2_
       have BK129 := n3_
       have GW129 := n4_
       have GE129 := n5_
       have NB119_129 := n6_
       have NB129_119 := n7_
       have NB125_129 := n8_
       have NB129_125 := n9_
       clear n0_ n1_ n2_ n3_ n4_ n5_ n6_ n7_ n8_ n9_
       clear hb hbox hg
       refine hK.out _ _ ⟨(blk_cell BK125.out 0).trans rfl, (blk_cell BK125.out 1).trans rfl, (blk_cell BK125.out 2).trans rfl, (blk_cell BK125.out 3).trans rfl⟩ (fun hHeld => ?_)
       clear hK K
       refine norm_ (a' := ?_) ?_ ?_
       rotate_left
       ·show Act.put _ (some 7) _ = _
        simp only [Act.put, sI_, s0_, sS_, i64_w, i32_w]
        rfl
       refine one_ (i := 5) (N := some 28) (w_ 8 127) rfl rfl (one_of HT_.out (by kernel_rfl)) (by decide) (fun K hK => ?_)
       refine goes_ Try.func35 (by kernel_rfl) rfl #[.int .i64 t126, .int .i64 t123] (by rfl) rfl rfl (by (try simp only [List.map_toArray, List.map_cons, List.map_nil]); first | done | rfl | (simp only [List.length_drop, List.length_take]; rfl)) ?_
       with_reducible refine (piecewise_lowest.calls kj2 t126 t123 t127 t128 _ A15.out).mono ?_
       rintro e w26 ⟨rfl, hb⟩
       refine ⟨_, rfl, ?_⟩
       have n0_ := mk_ (blk_below (kk_ BK119) hb)
       have n1_ := mk_ (blk_below (kk_ BK125) hb)
       have n2_ := mk_ (blk_below (kk_ BK129) hb)
       have n3_ := mk_ (below_step (bs3_ HB GE119 GE125 GE129) hb)
       clear BK119
       clear BK125
       clear BK129
       clear HB
       have BK119 := n0_
       have BK125 := n1_
       have BK129 := n2_
       have HB := n3_
       clear n0_ n1_ n2_ n3_
       (try clear hb)
       (try clear hb2)
       (try clear hk)
       (try clear hi)
       refine hK.out _ _ ⟨(blk_cell BK125.out 0).trans rfl, (blk_cell BK125.out 1).trans rfl, (blk_cell BK125.out 2).trans rfl, (blk_cell BK125.out 3).trans rfl⟩ (fun hHeld => ?_)
       clear hK K
       refine norm_ (a' := ?_) ?_ ?_
       rotate_left
       ·show Act.put _ (some 28) _ = _
        simp only [Act.put, sI_, s0_, sS_, i64_w, i32_w]
        rfl
       exact norm_ (by simp only [putAll, Act.put, sI_, s0_, sS_]) (hCont (gb129) _ ⟨hHeld, (kk_ BK119), (kk_ BK125), (kk_ BK129), GW129.out, GE129.out, NB119_129.out, NB129_119.out, NB125_129.out, NB129_125.out, (bs3_ HB GE119 GE125 GE129)⟩)
     ·skip
      refine box_step ?hg (N := 7) ?hd (cs := #[.int .i64 0, .int .i64 0]) (t := 24) ?hr ?_; (case hd => rfl); (case hg => rfl); (case hr => first | (go_simp; done) | (go_simp; rfl))
      intro gb129 hg w24 hbox hb
      have n0_ := mk_ (blk_below (kk_ BK119) hb)
      have n1_ := mk_ (blk_below (kk_ BK125) hb)
      have n2_ := mk_ (below_step (bs2_ HB GE119 GE125) hb)
      have n3_ := mk_ (hbox)
      have n4_ := mk_ (bz_ hg (bs2_ HB GE119 GE125))
      have n5_ := mk_ (bz_ hg (bs2_ HB GE119 GE125))
      have n6_ := mk_ (bl_ hg (kk_ BK119))
      have n7_ := mk_ (bg_ hg (kk_ BK119))
      have n8_ := mk_ (bl_ hg (kk_ BK125))
      have n9_ := mk_ (bg_ hg (kk_ BK125))
      clear BK119
      clear BK125
      clear HB
      have BK119 := n0_
      have BK125 := n1_
      have HB := n2_
      have BK129 := n3_
      have GW129 := n4_
      have GE129 := n5_
      have NB119_129 := n6_
      have NB129_119 := n7_
      have NB125_129 := n8_
      have NB129_125 := n9_
      clear n0_ n1_ n2_ n3_ n4_ n5_ n6_ n7_ n8_ n9_
      clear hb hbox hg
      refine hK.out _ _ ⟨(blk_cell BK125.out 0).trans rfl, (blk_cell BK125.out 1).trans rfl, (blk_cell BK125.out 2).trans rfl, (blk_cell BK125.out 3).trans rfl⟩ (fun hHeld => ?_)
      clear hK K
      refine norm_ (a' := ?_) ?_ ?_
      rotate_left
      ·show Act.put _ (some 7) _ = _
       simp only [Act.put, sI_, s0_, sS_, i64_w, i32_w]
       rfl
      refine one_ (i := 2) (N := some 25) (w_ 8 95) rfl rfl (one_of HT_.out (by kernel_rfl)) (by decide) (fun K hK => ?_)
      refine goes_ Try.func36 (by kernel_rfl) rfl #[.agg #[.int .i64 t121, .int .i64 t122, .int .i64 t123, .int .i64 t124], .int .i64 a1] (by rfl) rfl rfl (by (try simp only [List.map_toArray, List.map_cons, List.map_nil]); first | done | rfl | (simp only [List.length_drop, List.length_take]; rfl)) ?_
      with_reducible refine (piecewise_line_at.calls t121 t122 t123 t124 a1 t126 _ A14.out).mono ?_
      rintro e w25 ⟨rfl, hb⟩
      refine ⟨_, rfl, ?_⟩
      have n0_ := mk_ (blk_below (kk_ BK119) hb)
      have n1_ := mk_ (blk_below (kk_ BK125) hb)
      have n2_ := mk_ (blk_below (kk_ BK129) hb)
      have n3_ := mk_ (below_step (bs3_ HB GE119 GE125 GE129) hb)
      clear BK119
      clear BK125
      clear BK129
      clear HB
      have BK119 := n0_
      have BK125 := n1_
      have BK129 := n2_
      have HB := n3_
      clear n0_ n1_ n2_ n3_
      (try clear hb)
      (try clear hb2)
      (try clear hk)
      (try clear hi)
      refine hK.out _ _ ⟨(blk_cell BK125.out 0).trans rfl, (blk_cell BK125.out 1).trans rfl, (blk_cell BK125.out 2).trans rfl, (blk_cell BK125.out 3).trans rfl⟩ (fun hHeld => ?_)
      clear hK K
      refine norm_ (a' := ?_) ?_ ?_
      rotate_left
      ·show Act.put _ (some 25) _ = _
       simp only [Act.put, sI_, s0_, sS_, i64_w, i32_w]
       rfl
      refine one_ (i := 5) (N := some 28) (w_ 8 127) rfl rfl (one_of HT_.out (by kernel_rfl)) (by decide) (fun K hK => ?_)
      refine goes_ Try.func35 (by kernel_rfl) rfl #[.int .i64 t126, .int .i64 t123] (by rfl) rfl rfl (by (try simp only [List.map_toArray, List.map_cons, List.map_nil]); first | done | rfl | (simp only [List.length_drop, List.length_take]; rfl)) ?_
      with_reducible refine (piecewise_lowest.calls kj2 t126 t123 t127 t128 _ A15.out).mono ?_
      rintro e w26 ⟨rfl, hb⟩
      refine ⟨_, rfl, ?_⟩
      have n0_ := mk_ (blk_below (kk_ BK119) hb)
      have n1_ := mk_ (blk_below (kk_ BK125) hb)
      have n2_ := mk_ (blk_below (kk_ BK129) hb)
      have n3_ := mk_ (below_step (bs3_ HB GE119 GE125 GE129) hb)
      clear BK119
      clear BK125
      clear BK129
      clear HB
      have BK119 := n0_
      have BK125 := n1_
      have BK129 := n2_
      have HB := n3_
      clear n0_ n1_ n2_ n3_
      (try clear hb)
      (try clear hb2)
      (try clear hk)
      (try clear hi)
      refine hK.out _ _ ⟨(blk_cell BK125.out 0).trans rfl, (blk_cell BK125.out 1).trans rfl, (blk_cell BK125.out 2).trans rfl, (blk_cell BK125.out 3).trans rfl⟩ (fun hHeld => ?_)
      clear hK K
      refine norm_ (a' := ?_) ?_ ?_
      rotate_left
      ·show Act.put _ (some 28) _ = _
       simp only [Act.put, sI_, s0_, sS_, i64_w, i32_w]
       rfl
      exact norm_ (by simp only [putAll, Act.put, sI_, s0_, sS_]) (hCont (gb129) _ ⟨hHeld, (kk_ BK119), (kk_ BK125), (kk_ BK129), GW129.out, GE129.out, NB119_129.out, NB129_119.out, NB125_129.out, NB129_125.out, (bs3_ HB GE119 GE125 GE129)⟩)
    rintro gb129 w27 ⟨hS_, h0_, h1_, h2_, h3_, h4_, h5_, h6_, h7_, h8_, h9_⟩
    have n0_ : Aside0 (w27.heap[gb119]? = some (.cells #[.int .i64 0, .int .i64 0] 24 (0, 0))) := ⟨h0_⟩
    have n1_ : Aside0 (w27.heap[gb125]? = some (.cells #[.int .i64 t121, .int .i64 t122, .int .i64 t123, .int .i64 t124] 54 (0, 0))) := ⟨h1_⟩
    have n2_ : Aside0 (w27.heap[gb129]? = some (.cells #[.int .i64 0, .int .i64 0] 24 (0, 0))) := ⟨h2_⟩
    have n3_ : Aside0 (w.heap.size ≤ gb129) := ⟨h3_⟩
    have n4_ : Aside0 (w.heap.size ≤ gb129) := ⟨h4_⟩
    have n5_ : Aside0 (gb119 ≠ gb129) := ⟨h5_⟩
    have n6_ : Aside0 (gb129 ≠ gb119) := ⟨h6_⟩
    have n7_ : Aside0 (gb125 ≠ gb129) := ⟨h7_⟩
    have n8_ : Aside0 (gb129 ≠ gb125) := ⟨h8_⟩
    have n9_ : Aside0 (Below w.heap.size w w27) := ⟨h9_⟩
    clear BK119
    clear BK125
    clear HB
    clear h0_ h1_ h2_ h3_ h4_ h5_ h6_ h7_ h8_ h9_
    have BK119 := n0_
    have BK125 := n1_
    have BK129 := n2_
    have GW129 := n3_
    have GE129 := n4_
    have NB119_129 := n5_
    have NB129_119 := n6_
    have NB125_129 := n7_
    have NB129_125 := n8_
    have HB := n9_
    clear n0_ n1_ n2_ n3_ n4_ n5_ n6_ n7_ n8_ n9_
    have hHeld : w27.cell? ⟨gb125, 0, none⟩ = some (.int .i64 t121) ∧ w27.cell? ⟨gb125, 1, none⟩ = some (.int .i64 t122) ∧ w27.cell? ⟨gb125, 2, none⟩ = some (.int .i64 t123) ∧ w27.cell? ⟨gb125, 3, none⟩ = some (.int .i64 t124) := hS_
    refine norm_ (a' := ?_) ?_ ?_
    rotate_left
    ·simp only [putAll, Act.put, sI_, s0_, sS_]
     rfl
    refine one_ (i := 7) (N := none) (w_ 8 255) rfl rfl (one_of HT_.out (by kernel_rfl)) (by decide) (fun K hK => ?_)
    have hs28 : w27.cell? ⟨gb129, 0, none⟩ = some (.int .i64 0) := (blk_cell BK129.out 0).trans rfl
    have hfs28 := blk_frozen BK129.out 0
    have hns28_0 := NB119_129.out
    have hns28_1 := NB125_129.out
    have hms28_0 := NB129_119.out
    have hms28_1 := NB129_125.out
    have hs29 : w27.cell? ⟨gb129, 1, none⟩ = some (.int .i64 0) := (blk_cell BK129.out 1).trans rfl
    have hfs29 := blk_frozen BK129.out 1
    have hns29_0 := NB119_129.out
    have hns29_1 := NB125_129.out
    have hms29_0 := NB129_119.out
    have hms29_1 := NB129_125.out
    refine skip_ (w1 := ?_) (by rfl) rfl ?_ ?_
    rotate_left
    ·go_simp
     rfl
    refine hK.out _ _ ⟨((cell_far (p := ⟨gb129, _, none⟩) NB125_129.out _).trans (((cell_far (p := ⟨gb129, _, none⟩) NB125_129.out _).trans (hHeld.1)))), ((cell_far (p := ⟨gb129, _, none⟩) NB125_129.out _).trans (((cell_far (p := ⟨gb129, _, none⟩) NB125_129.out _).trans (hHeld.2.1)))), ((cell_far (p := ⟨gb129, _, none⟩) NB125_129.out _).trans (((cell_far (p := ⟨gb129, _, none⟩) NB125_129.out _).trans (hHeld.2.2.1)))), ((cell_far (p := ⟨gb129, _, none⟩) NB125_129.out _).trans (((cell_far (p := ⟨gb129, _, none⟩) NB125_129.out _).trans (hHeld.2.2.2))))⟩ (fun hHeld => ?_)
    clear hK K
    refine done_ (done_of HT_.out (by kernel_rfl)) ?_
    have hnb30 := NB129_119.out
    have hnc30 := NB119_129.out
    have hnb31 := NB129_125.out
    have hnc31 := NB125_129.out
    have hcz32_0 := bc0_ BK129.out
    have hcz32_1 := bc1_ BK129.out
    have hfz32_0 := blk_frozen BK129.out 0
    have hfz32_1 := blk_frozen BK129.out 1
    try go_wp2_with (first | ((with_reducible refine gate_callee (f := 37) rfl ?_); refine gl_ (some 30) Try.func37 #[.agg #[.int .i64 t127, .int .i64 t128]] ?_; (with_reducible refine (rational_Valid.calls t127 t128 true _ A16.out).mono ?_); rintro e w33 ⟨rfl, hb⟩; refine ⟨_, rfl, ?_⟩; have n0_ := mk_ (blk_below (g := gb119) (o := .cells #[.int .i64 0, .int .i64 0] 24 (0, 0)) (by (with_reducible repeat (first | refine blk_drewN ?_ _ | refine blk_drew ?_ | refine blk_alloc ?_ _)); refine blk_far ?_ NB119_129.out _; (with_reducible repeat (first | refine blk_drewN ?_ _ | refine blk_drew ?_ | refine blk_alloc ?_ _)); refine blk_far ?_ NB119_129.out _; (with_reducible repeat (first | refine blk_drewN ?_ _ | refine blk_drew ?_ | refine blk_alloc ?_ _)); exact BK119.out) hb); have n1_ := mk_ (blk_below (g := gb125) (o := .cells #[.int .i64 t121, .int .i64 t122, .int .i64 t123, .int .i64 t124] 54 (0, 0)) (by (with_reducible repeat (first | refine blk_drewN ?_ _ | refine blk_drew ?_ | refine blk_alloc ?_ _)); refine blk_far ?_ NB125_129.out _; (with_reducible repeat (first | refine blk_drewN ?_ _ | refine blk_drew ?_ | refine blk_alloc ?_ _)); refine blk_far ?_ NB125_129.out _; (with_reducible repeat (first | refine blk_drewN ?_ _ | refine blk_drew ?_ | refine blk_alloc ?_ _)); exact BK125.out) hb); have n2_ := mk_ (blk_below (g := gb129) (o := .cells #[.int .i64 t127, .int .i64 t128] 24 (0, 0)) (by (with_reducible repeat (first | refine blk_drewN ?_ _ | refine blk_drew ?_ | refine blk_alloc ?_ _)); refine blk_put (cs := #[.int .i64 t127, .int .i64 0]) ?_ 1 _ rfl; (with_reducible repeat (first | refine blk_drewN ?_ _ | refine blk_drew ?_ | refine blk_alloc ?_ _)); refine blk_put (cs := #[.int .i64 0, .int .i64 0]) ?_ 0 _ rfl; (with_reducible repeat (first | refine blk_drewN ?_ _ | refine blk_drew ?_ | refine blk_alloc ?_ _)); exact BK129.out) hb); have n3_ := mk_ (below_step (bs3_ HB GE119 GE125 GE129) hb); clear BK119 BK125 BK129 HB; revert n0_ n1_ n2_ n3_; intro BK119 BK125 BK129 HB; (try clear hb); (try clear hb2); (try clear hk); (try clear hi); have hcz34_0 := bc0_ BK129.out; have hcz34_1 := bc1_ BK129.out; have hfz34_0 := blk_frozen BK129.out 0; have hfz34_1 := blk_frozen BK129.out 1; have hcz35_0 := bc0_ BK119.out; have hcz35_1 := bc1_ BK119.out; have hfz35_0 := blk_frozen BK119.out 0; have hfz35_1 := blk_frozen BK119.out 1))
    refine bodyPost_ret (results_ct rfl _ _ gb119 24 #[.int .i64 t127, .int .i64 t128] (0, 0) _ rfl (by (with_reducible repeat (first | refine blk_drewN ?_ _ | refine blk_drew ?_ | refine blk_alloc ?_ _)); refine blk_put (cs := #[.int .i64 t127, .int .i64 0]) ?_ 1 _ rfl; (with_reducible repeat (first | refine blk_drewN ?_ _ | refine blk_drew ?_ | refine blk_alloc ?_ _)); refine blk_put (cs := #[.int .i64 0, .int .i64 0]) ?_ 0 _ rfl; (with_reducible repeat (first | refine blk_drewN ?_ _ | refine blk_drew ?_ | refine blk_alloc ?_ _)); exact BK119.out) Try.underlying24 rfl (by kernel_rfl)) rfl ?_
    exact ⟨ew_, bs3_ HB GE119 GE125 GE129⟩
   replace c17 := Bool.eq_false_iff.mpr c17
   subst c17
   have H1 : (some (0, 0, 3)) = some (r1, r2, r3) := by rw [if_neg (show ¬ (false = true) by decide)] at H; exact H
   clear H
   have H := H1
   clear H1
   simp only [Option.some.injEq, Prod.mk.injEq] at H
   obtain ⟨rfl, rfl, rfl⟩ := H
   try go_wp2_with (first | ((with_reducible refine gate_callee (f := 34) rfl ?_); refine gl_ (some 22) Try.func34 #[.slice A0 l0.length c0, .int .i64 a1] ?_; (with_reducible refine (piecewise_find.calls _ _ l0 a1 t121 t122 t123 t124 _ ?side1 ?side2 A13.out).mono ?_); (case side1 => exact cc_ ((Kd.C_below HR0.out HB.out))); (case side2 => exact HC0.out); rintro e w36 ⟨rfl, hb⟩; refine ⟨_, rfl, ?_⟩; have n0_ := mk_ (blk_below (kk_ BK119) hb); have n1_ := mk_ (below_step (bs_ HB GE119.out) hb); clear BK119 HB; revert n0_ n1_; intro BK119 HB; (try clear hb); (try clear hb2); (try clear hk); (try clear hi)) | ((with_reducible refine gate_dst (N := 6) rfl ?_); refine box_event ?hg (N := 6) ?hd (cs := #[.int .i64 0, .int .i64 0, .int .i64 0, .int .i64 0]) (t := 54) ?hr ?_; (case hd => rfl); (case hg => rfl); (case hr => first | (go_simp; done) | (go_simp; rfl)); intro gb125 hg w37 hbox hb; have n0_ := mk_ (blk_below (kk_ BK119) hb); have n1_ := mk_ (below_step (bs_ HB GE119.out) hb); have n2_ := mk_ (hbox); have n3_ := mk_ (bz_ hg (bs_ HB GE119.out)); have n4_ := mk_ (bz_ hg (bs_ HB GE119.out)); have n5_ := mk_ (bl_ hg (kk_ BK119)); have n6_ := mk_ (bg_ hg (kk_ BK119)); clear BK119 HB; revert n0_ n1_ n2_ n3_ n4_ n5_ n6_; intro BK119 HB BK125 GW125 GE125 NB119_125 NB125_119; clear hb hbox hg; have hnb38 := NB125_119.out; have hnc38 := NB119_125.out; have hcz39_0 := bc0_ BK125.out; have hcz39_1 := bc1_ BK125.out; have hcz39_2 := bc2_ BK125.out; have hcz39_3 : w37.cell? ⟨gb125, 3, none⟩ = some (.int .i64 0) := (blk_cell BK125.out 3).trans rfl; have hfz39_0 := blk_frozen BK125.out 0; have hfz39_1 := blk_frozen BK125.out 1; have hfz39_2 := blk_frozen BK125.out 2; have hfz39_3 := blk_frozen BK125.out 3))
   have n0_ : Aside0 (((((w37.setCell ⟨gb125, 0, none⟩ (.int .i64 t121)).setCell ⟨gb125, 1, none⟩ (.int .i64 t122)).setCell ⟨gb125, 2, none⟩ (.int .i64 t123)).setCell ⟨gb125, 3, none⟩ (.int .i64 t124)).heap[gb119]? = some (.cells #[.int .i64 0, .int .i64 0] 24 (0, 0))) := ⟨by (with_reducible repeat (first | refine blk_drewN ?_ _ | refine blk_drew ?_ | refine blk_alloc ?_ _)); refine blk_far ?_ NB119_125.out _; (with_reducible repeat (first | refine blk_drewN ?_ _ | refine blk_drew ?_ | refine blk_alloc ?_ _)); refine blk_far ?_ NB119_125.out _; (with_reducible repeat (first | refine blk_drewN ?_ _ | refine blk_drew ?_ | refine blk_alloc ?_ _)); refine blk_far ?_ NB119_125.out _; (with_reducible repeat (first | refine blk_drewN ?_ _ | refine blk_drew ?_ | refine blk_alloc ?_ _)); refine blk_far ?_ NB119_125.out _; (with_reducible repeat (first | refine blk_drewN ?_ _ | refine blk_drew ?_ | refine blk_alloc ?_ _)); exact BK119.out⟩
   have n1_ : Aside0 (((((w37.setCell ⟨gb125, 0, none⟩ (.int .i64 t121)).setCell ⟨gb125, 1, none⟩ (.int .i64 t122)).setCell ⟨gb125, 2, none⟩ (.int .i64 t123)).setCell ⟨gb125, 3, none⟩ (.int .i64 t124)).heap[gb125]? = some (.cells #[.int .i64 t121, .int .i64 t122, .int .i64 t123, .int .i64 t124] 54 (0, 0))) := ⟨by (with_reducible repeat (first | refine blk_drewN ?_ _ | refine blk_drew ?_ | refine blk_alloc ?_ _)); refine blk_put (cs := #[.int .i64 t121, .int .i64 t122, .int .i64 t123, .int .i64 0]) ?_ 3 _ rfl; (with_reducible repeat (first | refine blk_drewN ?_ _ | refine blk_drew ?_ | refine blk_alloc ?_ _)); refine blk_put (cs := #[.int .i64 t121, .int .i64 t122, .int .i64 0, .int .i64 0]) ?_ 2 _ rfl; (with_reducible repeat (first | refine blk_drewN ?_ _ | refine blk_drew ?_ | refine blk_alloc ?_ _)); refine blk_put (cs := #[.int .i64 t121, .int .i64 0, .int .i64 0, .int .i64 0]) ?_ 1 _ rfl; (with_reducible repeat (first | refine blk_drewN ?_ _ | refine blk_drew ?_ | refine blk_alloc ?_ _)); refine blk_put (cs := #[.int .i64 0, .int .i64 0, .int .i64 0, .int .i64 0]) ?_ 0 _ rfl; (with_reducible repeat (first | refine blk_drewN ?_ _ | refine blk_drew ?_ | refine blk_alloc ?_ _)); exact BK125.out⟩
   have n2_ : Aside0 (Below w.heap.size w ((((w37.setCell ⟨gb125, 0, none⟩ (.int .i64 t121)).setCell ⟨gb125, 1, none⟩ (.int .i64 t122)).setCell ⟨gb125, 2, none⟩ (.int .i64 t123)).setCell ⟨gb125, 3, none⟩ (.int .i64 t124))) := ⟨bs2_ HB GE119 GE125⟩
   (try clear BK119)
   (try clear BK125)
   (try clear HB)
   generalize ((((w37.setCell ⟨gb125, 0, none⟩ (.int .i64 t121)).setCell ⟨gb125, 1, none⟩ (.int .i64 t122)).setCell ⟨gb125, 2, none⟩ (.int .i64 t123)).setCell ⟨gb125, 3, none⟩ (.int .i64 t124)) = w40 at n0_ n1_ n2_ ⊢
   have BK119 := n0_
   have BK125 := n1_
   have HB := n2_
   clear n0_ n1_ n2_
   have n0_ := mk_ (blk_drew BK119.out)
   have n1_ := mk_ (blk_drew BK125.out)
   have n2_ := mk_ (below_drew1 HB.out)
   clear BK119
   clear BK125
   clear HB
   have BK119 := n0_
   have BK125 := n1_
   have HB := n2_
   clear n0_ n1_ n2_
   refine start_ (n := 8) (S := fun w' => w'.cell? ⟨gb125, 0, none⟩ = some (.int .i64 t121) ∧ w'.cell? ⟨gb125, 1, none⟩ = some (.int .i64 t122) ∧ w'.cell? ⟨gb125, 2, none⟩ = some (.int .i64 t123) ∧ w'.cell? ⟨gb125, 3, none⟩ = some (.int .i64 t124)) (ds := []) #[n_, n_, n_, n_, n_, n_, n_, n_] (by kernel_rfl) rfl rfl ⟨(blk_cell BK125.out 0).trans rfl, (blk_cell BK125.out 1).trans rfl, (blk_cell BK125.out 2).trans rfl, (blk_cell BK125.out 3).trans rfl⟩ (fun hHeld => ?_); refine with_tabW piecewise_At.tab4 piecewise_At.bits4 (fun HT_ HW_ => ?_)
   generalize w40.drew = w41 at BK119 BK125 HB hHeld ⊢
   refine pu_ 1 24 (w_ 8 2) rfl HT_ ?_
   refine pu_ 3 26 (w_ 8 10) rfl HT_ ?_
   refine ta_ 0 23 (w_ 8 11) rfl HT_ HW_ hHeld (by rintro w' ⟨s0, s1, s2, s3⟩; go_simp; with_reducible rfl) ?_
   refine ta_ 4 27 (w_ 8 27) rfl HT_ HW_ hHeld (by rintro w' ⟨s0, s1, s2, s3⟩; go_simp; with_reducible rfl) ?_
   refine join_ (σ := Nat) 1 #[y_, y_, y_, y_, y_, y_, y_, n_] (fun s_ => [(25, .int .i64 t126), (28, .agg #[.int .i64 t127, .int .i64 t128]), (7, .pointer (some ⟨s_, 0, none⟩))]) (fun s_ w' => (w'.cell? ⟨gb125, 0, none⟩ = some (.int .i64 t121) ∧ w'.cell? ⟨gb125, 1, none⟩ = some (.int .i64 t122) ∧ w'.cell? ⟨gb125, 2, none⟩ = some (.int .i64 t123) ∧ w'.cell? ⟨gb125, 3, none⟩ = some (.int .i64 t124)) ∧ (w'.heap[gb119]? = some (.cells #[.int .i64 0, .int .i64 0] 24 (0, 0))) ∧ (w'.heap[gb125]? = some (.cells #[.int .i64 t121, .int .i64 t122, .int .i64 t123, .int .i64 t124] 54 (0, 0))) ∧ (w'.heap[s_]? = some (.cells #[.int .i64 0, .int .i64 0] 24 (0, 0))) ∧ (w.heap.size ≤ s_) ∧ (w.heap.size ≤ s_) ∧ (gb119 ≠ s_) ∧ (s_ ≠ gb119) ∧ (gb125 ≠ s_) ∧ (s_ ≠ gb125) ∧ (Below w.heap.size w w')) ?_ ?_
   rotate_left
   ·intro hCont
    refine two_ (i := 2) (j := 6) (Ni := some 25) (Nj := some 7) #[y_, y_, y_, y_, y_, n_, n_, n_] #[y_, y_, n_, y_, y_, n_, y_, n_] rfl rfl rfl rfl (two_of HT_.out (by kernel_rfl)) (by decide) (by decide) (fun K hK => ?_) (fun K hK => ?_)
    ·skip
     refine goes_ Try.func36 (by kernel_rfl) rfl #[.agg #[.int .i64 t121, .int .i64 t122, .int .i64 t123, .int .i64 t124], .int .i64 a1] (by rfl) rfl rfl (by (try simp only [List.map_toArray, List.map_cons, List.map_nil]); first | done | rfl | (simp only [List.length_drop, List.length_take]; rfl)) ?_
     with_reducible refine (piecewise_line_at.calls t121 t122 t123 t124 a1 t126 _ A14.out).mono ?_
     rintro e w42 ⟨rfl, hb⟩
     refine ⟨_, rfl, ?_⟩
     have n0_ := mk_ (blk_below (kk_ BK119) hb)
     have n1_ := mk_ (blk_below (kk_ BK125) hb)
     have n2_ := mk_ (below_step (bs2_ HB GE119 GE125) hb)
     clear BK119
     clear BK125
     clear HB
     have BK119 := n0_
     have BK125 := n1_
     have HB := n2_
     clear n0_ n1_ n2_
     (try clear hb)
     (try clear hb2)
     (try clear hk)
     (try clear hi)
     refine hK.out _ _ ⟨(blk_cell BK125.out 0).trans rfl, (blk_cell BK125.out 1).trans rfl, (blk_cell BK125.out 2).trans rfl, (blk_cell BK125.out 3).trans rfl⟩ (fun hHeld => ?_)
     clear hK K
     refine norm_ (a' := ?_) ?_ ?_
     rotate_left
     ·show Act.put _ (some 25) _ = _
      simp only [Act.put, sI_, s0_, sS_, i64_w, i32_w]
      rfl
     refine two_ (i := 5) (j := 6) (Ni := some 28) (Nj := some 7) #[y_, y_, y_, y_, y_, y_, n_, n_] #[y_, y_, y_, y_, y_, n_, y_, n_] rfl rfl rfl rfl (two_of HT_.out (by kernel_rfl)) (by decide) (by decide) (fun K hK => ?_) (fun K hK => ?_)
     ·skip
      refine goes_ Try.func35 (by kernel_rfl) rfl #[.int .i64 t126, .int .i64 t123] (by rfl) rfl rfl (by (try simp only [List.map_toArray, List.map_cons, List.map_nil]); first | done | rfl | (simp only [List.length_drop, List.length_take]; rfl)) ?_
      with_reducible refine (piecewise_lowest.calls kj2 t126 t123 t127 t128 _ A15.out).mono ?_
      rintro e w43 ⟨rfl, hb⟩
      refine ⟨_, rfl, ?_⟩
      have n0_ := mk_ (blk_below (kk_ BK119) hb)
      have n1_ := mk_ (blk_below (kk_ BK125) hb)
      have n2_ := mk_ (below_step (bs2_ HB GE119 GE125) hb)
      clear BK119
      clear BK125
      clear HB
      have BK119 := n0_
      have BK125 := n1_
      have HB := n2_
      clear n0_ n1_ n2_
      (try clear hb)
      (try clear hb2)
      (try clear hk)
      (try clear hi)
      refine hK.out _ _ ⟨(blk_cell BK125.out 0).trans rfl, (blk_cell BK125.out 1).trans rfl, (blk_cell BK125.out 2).trans rfl, (blk_cell BK125.out 3).trans rfl⟩ (fun hHeld => ?_)
      clear hK K
      refine norm_ (a' := ?_) ?_ ?_
      rotate_left
      ·show Act.put _ (some 28) _ = _
       simp only [Act.put, sI_, s0_, sS_, i64_w, i32_w]
       rfl
      refine one_ (i := 6) (N := some 7) (w_ 8 127) rfl rfl (one_of HT_.out (by kernel_rfl)) (by decide) (fun K hK => ?_)
      refine box_step ?hg (N := 7) ?hd (cs := #[.int .i64 0, .int .i64 0]) (t := 24) ?hr ?_; (case hd => rfl); (case hg => rfl); (case hr => first | (go_simp; done) | (go_simp; rfl))
      intro gb129 hg w44 hbox hb
      have n0_ := mk_ (blk_below (kk_ BK119) hb)
      have n1_ := mk_ (blk_below (kk_ BK125) hb)
      have n2_ := mk_ (below_step (bs2_ HB GE119 GE125) hb)
      have n3_ := mk_ (hbox)
      have n4_ := mk_ (bz_ hg (bs2_ HB GE119 GE125))
      have n5_ := mk_ (bz_ hg (bs2_ HB GE119 GE125))
      have n6_ := mk_ (bl_ hg (kk_ BK119))
      have n7_ := mk_ (bg_ hg (kk_ BK119))
      have n8_ := mk_ (bl_ hg (kk_ BK125))
      have n9_ := mk_ (bg_ hg (kk_ BK125))
      clear BK119
      clear BK125
      clear HB
      have BK119 := n0_
      have BK125 := n1_
      have HB := n2_
      have BK129 := n3_
      have GW129 := n4_
      have GE129 := n5_
      have NB119_129 := n6_
      have NB129_119 := n7_
      have NB125_129 := n8_
      have NB129_125 := n9_
      clear n0_ n1_ n2_ n3_ n4_ n5_ n6_ n7_ n8_ n9_
      clear hb hbox hg
      refine hK.out _ _ ⟨(blk_cell BK125.out 0).trans rfl, (blk_cell BK125.out 1).trans rfl, (blk_cell BK125.out 2).trans rfl, (blk_cell BK125.out 3).trans rfl⟩ (fun hHeld => ?_)
      clear hK K
      refine norm_ (a' := ?_) ?_ ?_
      rotate_left
      ·show Act.put _ (some 7) _ = _
       simp only [Act.put, sI_, s0_, sS_, i64_w, i32_w]
       rfl
      exact norm_ (by simp only [putAll, Act.put, sI_, s0_, sS_]) (hCont (gb129) _ ⟨hHeld, (kk_ BK119), (kk_ BK125), (kk_ BK129), GW129.out, GE129.out, NB119_129.out, NB129_119.out, NB125_129.out, NB129_125.out, (bs3_ HB GE119 GE125 GE129)⟩)
     ·skip
      refine box_step ?hg (N := 7) ?hd (cs := #[.int .i64 0, .int .i64 0]) (t := 24) ?hr ?_; (case hd => rfl); (case hg => rfl); (case hr => first | (go_simp; done) | (go_simp; rfl))
      intro gb129 hg w43 hbox hb
      have n0_ := mk_ (blk_below (kk_ BK119) hb)
      have n1_ := mk_ (blk_below (kk_ BK125) hb)
      have n2_ := mk_ (below_step (bs2_ HB GE119 GE125) hb)
      have n3_ := mk_ (hbox)
      have n4_ := mk_ (bz_ hg (bs2_ HB GE119 GE125))
      have n5_ := mk_ (bz_ hg (bs2_ HB GE119 GE125))
      have n6_ := mk_ (bl_ hg (kk_ BK119))
      have n7_ := mk_ (bg_ hg (kk_ BK119))
      have n8_ := mk_ (bl_ hg (kk_ BK125))
      have n9_ := mk_ (bg_ hg (kk_ BK125))
      clear BK119
      clear BK125
      clear HB
      have BK119 := n0_
      have BK125 := n1_
      have HB := n2_
      have BK129 := n3_
      have GW129 := n4_
      have GE129 := n5_
      have NB119_129 := n6_
      have NB129_119 := n7_
      have NB125_129 := n8_
      have NB129_125 := n9_
      clear n0_ n1_ n2_ n3_ n4_ n5_ n6_ n7_ n8_ n9_
      clear hb hbox hg
      refine hK.out _ _ ⟨(blk_cell BK125.out 0).trans rfl, (blk_cell BK125.out 1).trans rfl, (blk_cell BK125.out 2).trans rfl, (blk_cell BK125.out 3).trans rfl⟩ (fun hHeld => ?_)
      clear hK K
      refine norm_ (a' := ?_) ?_ ?_
      rotate_left
      ·show Act.put _ (some 7) _ = _
       simp only [Act.put, sI_, s0_, sS_, i64_w, i32_w]
       rfl
      refine one_ (i := 5) (N := some 28) (w_ 8 127) rfl rfl (one_of HT_.out (by kernel_rfl)) (by decide) (fun K hK => ?_)
      refine goes_ Try.func35 (by kernel_rfl) rfl #[.int .i64 t126, .int .i64 t123] (by rfl) rfl rfl (by (try simp only [List.map_toArray, List.map_cons, List.map_nil]); first | done | rfl | (simp only [List.length_drop, List.length_take]; rfl)) ?_
      with_reducible refine (piecewise_lowest.calls kj2 t126 t123 t127 t128 _ A15.out).mono ?_
      rintro e w44 ⟨rfl, hb⟩
      refine ⟨_, rfl, ?_⟩
      have n0_ := mk_ (blk_below (kk_ BK119) hb)
      have n1_ := mk_ (blk_below (kk_ BK125) hb)
      have n2_ := mk_ (blk_below (kk_ BK129) hb)
      have n3_ := mk_ (below_step (bs3_ HB GE119 GE125 GE129) hb)
      clear BK119
      clear BK125
      clear BK129
      clear HB
      have BK119 := n0_
      have BK125 := n1_
      have BK129 := n2_
      have HB := n3_
      clear n0_ n1_ n2_ n3_
      (try clear hb)
      (try clear hb2)
      (try clear hk)
      (try clear hi)
      refine hK.out _ _ ⟨(blk_cell BK125.out 0).trans rfl, (blk_cell BK125.out 1).trans rfl, (blk_cell BK125.out 2).trans rfl, (blk_cell BK125.out 3).trans rfl⟩ (fun hHeld => ?_)
      clear hK K
      refine norm_ (a' := ?_) ?_ ?_
      rotate_left
      ·show Act.put _ (some 28) _ = _
       simp only [Act.put, sI_, s0_, sS_, i64_w, i32_w]
       rfl
      exact norm_ (by simp only [putAll, Act.put, sI_, s0_, sS_]) (hCont (gb129) _ ⟨hHeld, (kk_ BK119), (kk_ BK125), (kk_ BK129), GW129.out, GE129.out, NB119_129.out, NB129_119.out, NB125_129.out, NB129_125.out, (bs3_ HB GE119 GE125 GE129)⟩)
    ·skip
     refine box_step ?hg (N := 7) ?hd (cs := #[.int .i64 0, .int .i64 0]) (t := 24) ?hr ?_; (case hd => rfl); (case hg => rfl); (case hr => first | (go_simp; done) | (go_simp; rfl))
     intro gb129 hg w42 hbox hb
     have n0_ := mk_ (blk_below (kk_ BK119) hb)
     have n1_ := mk_ (blk_below (kk_ BK125) hb)
     have n2_ := mk_ (below_step (bs2_ HB GE119 GE125) hb)
     have n3_ := mk_ (hbox)
     have n4_ := mk_ (bz_ hg (bs2_ HB GE119 GE125))
     have n5_ := mk_ (bz_ hg (bs2_ HB GE119 GE125))
     have n6_ := mk_ (bl_ hg (kk_ BK119))
     have n7_ := mk_ (bg_ hg (kk_ BK119))
     have n8_ := mk_ (bl_ hg (kk_ BK125))
     have n9_ := mk_ (bg_ hg (kk_ BK125))
     clear BK119
     clear BK125
     clear HB
     have BK119 := n0_
     have BK125 := n1_
     have HB := n2_
     have BK129 := n3_
     have GW129 := n4_
     have GE129 := n5_
     have NB119_129 := n6_
     have NB129_119 := n7_
     have NB125_129 := n8_
     have NB129_125 := n9_
     clear n0_ n1_ n2_ n3_ n4_ n5_ n6_ n7_ n8_ n9_
     clear hb hbox hg
     refine hK.out _ _ ⟨(blk_cell BK125.out 0).trans rfl, (blk_cell BK125.out 1).trans rfl, (blk_cell BK125.out 2).trans rfl, (blk_cell BK125.out 3).trans rfl⟩ (fun hHeld => ?_)
     clear hK K
     refine norm_ (a' := ?_) ?_ ?_
     rotate_left
     ·show Act.put _ (some 7) _ = _
      simp only [Act.put, sI_, s0_, sS_, i64_w, i32_w]
      rfl
     refine one_ (i := 2) (N := some 25) (w_ 8 95) rfl rfl (one_of HT_.out (by kernel_rfl)) (by decide) (fun K hK => ?_)
     refine goes_ Try.func36 (by kernel_rfl) rfl #[.agg #[.int .i64 t121, .int .i64 t122, .int .i64 t123, .int .i64 t124], .int .i64 a1] (by rfl) rfl rfl (by (try simp only [List.map_toArray, List.map_cons, List.map_nil]); first | done | rfl | (simp only [List.length_drop, List.length_take]; rfl)) ?_
     with_reducible refine (piecewise_line_at.calls t121 t122 t123 t124 a1 t126 _ A14.out).mono ?_
     rintro e w43 ⟨rfl, hb⟩
     refine ⟨_, rfl, ?_⟩
     have n0_ := mk_ (blk_below (kk_ BK119) hb)
     have n1_ := mk_ (blk_below (kk_ BK125) hb)
     have n2_ := mk_ (blk_below (kk_ BK129) hb)
     have n3_ := mk_ (below_step (bs3_ HB GE119 GE125 GE129) hb)
     clear BK119
     clear BK125
     clear BK129
     clear HB
     have BK119 := n0_
     have BK125 := n1_
     have BK129 := n2_
     have HB := n3_
     clear n0_ n1_ n2_ n3_
     (try clear hb)
     (try clear hb2)
     (try clear hk)
     (try clear hi)
     refine hK.out _ _ ⟨(blk_cell BK125.out 0).trans rfl, (blk_cell BK125.out 1).trans rfl, (blk_cell BK125.out 2).trans rfl, (blk_cell BK125.out 3).trans rfl⟩ (fun hHeld => ?_)
     clear hK K
     refine norm_ (a' := ?_) ?_ ?_
     rotate_left
     ·show Act.put _ (some 25) _ = _
      simp only [Act.put, sI_, s0_, sS_, i64_w, i32_w]
      rfl
     refine one_ (i := 5) (N := some 28) (w_ 8 127) rfl rfl (one_of HT_.out (by kernel_rfl)) (by decide) (fun K hK => ?_)
     refine goes_ Try.func35 (by kernel_rfl) rfl #[.int .i64 t126, .int .i64 t123] (by rfl) rfl rfl (by (try simp only [List.map_toArray, List.map_cons, List.map_nil]); first | done | rfl | (simp only [List.length_drop, List.length_take]; rfl)) ?_
     with_reducible refine (piecewise_lowest.calls kj2 t126 t123 t127 t128 _ A15.out).mono ?_
     rintro e w44 ⟨rfl, hb⟩
     refine ⟨_, rfl, ?_⟩
     have n0_ := mk_ (blk_below (kk_ BK119) hb)
     have n1_ := mk_ (blk_below (kk_ BK125) hb)
     have n2_ := mk_ (blk_below (kk_ BK129) hb)
     have n3_ := mk_ (below_step (bs3_ HB GE119 GE125 GE129) hb)
     clear BK119
     clear BK125
     clear BK129
     clear HB
     have BK119 := n0_
     have BK125 := n1_
     have BK129 := n2_
     have HB := n3_
     clear n0_ n1_ n2_ n3_
     (try clear hb)
     (try clear hb2)
     (try clear hk)
     (try clear hi)
     refine hK.out _ _ ⟨(blk_cell BK125.out 0).trans rfl, (blk_cell BK125.out 1).trans rfl, (blk_cell BK125.out 2).trans rfl, (blk_cell BK125.out 3).trans rfl⟩ (fun hHeld => ?_)
     clear hK K
     refine norm_ (a' := ?_) ?_ ?_
     rotate_left
     ·show Act.put _ (some 28) _ = _
      simp only [Act.put, sI_, s0_, sS_, i64_w, i32_w]
      rfl
     exact norm_ (by simp only [putAll, Act.put, sI_, s0_, sS_]) (hCont (gb129) _ ⟨hHeld, (kk_ BK119), (kk_ BK125), (kk_ BK129), GW129.out, GE129.out, NB119_129.out, NB129_119.out, NB125_129.out, NB129_125.out, (bs3_ HB GE119 GE125 GE129)⟩)
   rintro gb129 w45 ⟨hS_, h0_, h1_, h2_, h3_, h4_, h5_, h6_, h7_, h8_, h9_⟩
   have n0_ : Aside0 (w45.heap[gb119]? = some (.cells #[.int .i64 0, .int .i64 0] 24 (0, 0))) := ⟨h0_⟩
   have n1_ : Aside0 (w45.heap[gb125]? = some (.cells #[.int .i64 t121, .int .i64 t122, .int .i64 t123, .int .i64 t124] 54 (0, 0))) := ⟨h1_⟩
   have n2_ : Aside0 (w45.heap[gb129]? = some (.cells #[.int .i64 0, .int .i64 0] 24 (0, 0))) := ⟨h2_⟩
   have n3_ : Aside0 (w.heap.size ≤ gb129) := ⟨h3_⟩
   have n4_ : Aside0 (w.heap.size ≤ gb129) := ⟨h4_⟩
   have n5_ : Aside0 (gb119 ≠ gb129) := ⟨h5_⟩
   have n6_ : Aside0 (gb129 ≠ gb119) := ⟨h6_⟩
   have n7_ : Aside0 (gb125 ≠ gb129) := ⟨h7_⟩
   have n8_ : Aside0 (gb129 ≠ gb125) := ⟨h8_⟩
   have n9_ : Aside0 (Below w.heap.size w w45) := ⟨h9_⟩
   clear BK119
   clear BK125
   clear HB
   clear h0_ h1_ h2_ h3_ h4_ h5_ h6_ h7_ h8_ h9_
   have BK119 := n0_
   have BK125 := n1_
   have BK129 := n2_
   have GW129 := n3_
   have GE129 := n4_
   have NB119_129 := n5_
   have NB129_119 := n6_
   have NB125_129 := n7_
   have NB129_125 := n8_
   have HB := n9_
   clear n0_ n1_ n2_ n3_ n4_ n5_ n6_ n7_ n8_ n9_
   have hHeld : w45.cell? ⟨gb125, 0, none⟩ = some (.int .i64 t121) ∧ w45.cell? ⟨gb125, 1, none⟩ = some (.int .i64 t122) ∧ w45.cell? ⟨gb125, 2, none⟩ = some (.int .i64 t123) ∧ w45.cell? ⟨gb125, 3, none⟩ = some (.int .i64 t124) := hS_
   refine norm_ (a' := ?_) ?_ ?_
   rotate_left
   ·simp only [putAll, Act.put, sI_, s0_, sS_]
    rfl
   refine one_ (i := 7) (N := none) (w_ 8 255) rfl rfl (one_of HT_.out (by kernel_rfl)) (by decide) (fun K hK => ?_)
   have hs46 : w45.cell? ⟨gb129, 0, none⟩ = some (.int .i64 0) := (blk_cell BK129.out 0).trans rfl
   have hfs46 := blk_frozen BK129.out 0
   have hns46_0 := NB119_129.out
   have hns46_1 := NB125_129.out
   have hms46_0 := NB129_119.out
   have hms46_1 := NB129_125.out
   have hs47 : w45.cell? ⟨gb129, 1, none⟩ = some (.int .i64 0) := (blk_cell BK129.out 1).trans rfl
   have hfs47 := blk_frozen BK129.out 1
   have hns47_0 := NB119_129.out
   have hns47_1 := NB125_129.out
   have hms47_0 := NB129_119.out
   have hms47_1 := NB129_125.out
   refine skip_ (w1 := ?_) (by rfl) rfl ?_ ?_
   rotate_left
   ·go_simp
    rfl
   refine hK.out _ _ ⟨((cell_far (p := ⟨gb129, _, none⟩) NB125_129.out _).trans (((cell_far (p := ⟨gb129, _, none⟩) NB125_129.out _).trans (hHeld.1)))), ((cell_far (p := ⟨gb129, _, none⟩) NB125_129.out _).trans (((cell_far (p := ⟨gb129, _, none⟩) NB125_129.out _).trans (hHeld.2.1)))), ((cell_far (p := ⟨gb129, _, none⟩) NB125_129.out _).trans (((cell_far (p := ⟨gb129, _, none⟩) NB125_129.out _).trans (hHeld.2.2.1)))), ((cell_far (p := ⟨gb129, _, none⟩) NB125_129.out _).trans (((cell_far (p := ⟨gb129, _, none⟩) NB125_129.out _).trans (hHeld.2.2.2))))⟩ (fun hHeld => ?_)
   clear hK K
   refine done_ (done_of HT_.out (by kernel_rfl)) ?_
   have hnb48 := NB129_119.out
   have hnc48 := NB119_129.out
   have hnb49 := NB129_125.out
   have hnc49 := NB125_129.out
   have hcz50_0 := bc0_ BK129.out
   have hcz50_1 := bc1_ BK129.out
   have hfz50_0 := blk_frozen BK129.out 0
   have hfz50_1 := blk_frozen BK129.out 1
   try go_wp2_with (first | ((with_reducible refine gate_callee (f := 37) rfl ?_); refine gl_ (some 30) Try.func37 #[.agg #[.int .i64 t127, .int .i64 t128]] ?_; (with_reducible refine (rational_Valid.calls t127 t128 false _ A16.out).mono ?_); rintro e w51 ⟨rfl, hb⟩; refine ⟨_, rfl, ?_⟩; have n0_ := mk_ (blk_below (g := gb119) (o := .cells #[.int .i64 0, .int .i64 0] 24 (0, 0)) (by (with_reducible repeat (first | refine blk_drewN ?_ _ | refine blk_drew ?_ | refine blk_alloc ?_ _)); refine blk_far ?_ NB119_129.out _; (with_reducible repeat (first | refine blk_drewN ?_ _ | refine blk_drew ?_ | refine blk_alloc ?_ _)); refine blk_far ?_ NB119_129.out _; (with_reducible repeat (first | refine blk_drewN ?_ _ | refine blk_drew ?_ | refine blk_alloc ?_ _)); exact BK119.out) hb); have n1_ := mk_ (blk_below (g := gb125) (o := .cells #[.int .i64 t121, .int .i64 t122, .int .i64 t123, .int .i64 t124] 54 (0, 0)) (by (with_reducible repeat (first | refine blk_drewN ?_ _ | refine blk_drew ?_ | refine blk_alloc ?_ _)); refine blk_far ?_ NB125_129.out _; (with_reducible repeat (first | refine blk_drewN ?_ _ | refine blk_drew ?_ | refine blk_alloc ?_ _)); refine blk_far ?_ NB125_129.out _; (with_reducible repeat (first | refine blk_drewN ?_ _ | refine blk_drew ?_ | refine blk_alloc ?_ _)); exact BK125.out) hb); have n2_ := mk_ (blk_below (g := gb129) (o := .cells #[.int .i64 t127, .int .i64 t128] 24 (0, 0)) (by (with_reducible repeat (first | refine blk_drewN ?_ _ | refine blk_drew ?_ | refine blk_alloc ?_ _)); refine blk_put (cs := #[.int .i64 t127, .int .i64 0]) ?_ 1 _ rfl; (with_reducible repeat (first | refine blk_drewN ?_ _ | refine blk_drew ?_ | refine blk_alloc ?_ _)); refine blk_put (cs := #[.int .i64 0, .int .i64 0]) ?_ 0 _ rfl; (with_reducible repeat (first | refine blk_drewN ?_ _ | refine blk_drew ?_ | refine blk_alloc ?_ _)); exact BK129.out) hb); have n3_ := mk_ (below_step (bs3_ HB GE119 GE125 GE129) hb); clear BK119 BK125 BK129 HB; revert n0_ n1_ n2_ n3_; intro BK119 BK125 BK129 HB; (try clear hb); (try clear hb2); (try clear hk); (try clear hi); have hcz52_0 := bc0_ BK119.out; have hcz52_1 := bc1_ BK119.out; have hfz52_0 := blk_frozen BK119.out 0; have hfz52_1 := blk_frozen BK119.out 1))
   refine bodyPost_ret (results_ct rfl _ _ gb119 24 #[.int .i64 0, .int .i64 0] (0, 0) _ rfl (by (with_reducible repeat (first | refine blk_drewN ?_ _ | refine blk_drew ?_ | refine blk_alloc ?_ _)); refine blk_put (cs := #[.int .i64 0, .int .i64 0]) ?_ 1 _ rfl; (with_reducible repeat (first | refine blk_drewN ?_ _ | refine blk_drew ?_ | refine blk_alloc ?_ _)); refine blk_put (cs := #[.int .i64 0, .int .i64 0]) ?_ 0 _ rfl; (with_reducible repeat (first | refine blk_drewN ?_ _ | refine blk_drew ?_ | refine blk_alloc ?_ _)); exact BK119.out) Try.underlying24 rfl (by kernel_rfl)) rfl ?_
   exact ⟨ew_, bs3_ HB GE119 GE125 GE129⟩
end
section
theorem eqA51 (d : Nat) (w : World) (x0 y0 : Int) (x1 y1 : Int) (x2 y2 : Int) (x3 y3 : Int) (x4 y4 : Int) :
  (Op.equalIn (d + 3) 51 (.agg #[.int .i64 x0, .int .i64 x1, .int .i64 x2, .int .i64 x3, .int .i64 x4]) (.agg #[.int .i64 y0, .int .i64 y1, .int .i64 y2, .int .i64 y3, .int .i64 y4])).run Try.prog w = .ok (x0 == y0 && ((x1 == y1 && (x2 == y2)) && ((x3 == y3 && (x4 == y4))))) w := by
 refine eqA_of Try.underlying51 (by kernel_rfl) ?_
 refine eqf_cons (by rfl) (by go_simp; rfl) (by go_simp; rfl) (by go_simp) ?_
 refine eqf_cons (by rfl) (by go_simp) (by go_simp) (eqA24 (d + 0) w _ _ _ _) ?_
 exact eqf_last (by rfl) (by go_simp) (by go_simp) (eqA24 (d + 0) w _ _ _ _)
end
section
attribute [local go_sem high] eqA51
def cohousingref05_Same.l0 : Nat → List (S51) → List (S51) → Int → Option (Bool)
 | 0, _, _, _ => none
 | k + 1, x0, x1, x5 => if x5 < (x0.length : Int) then (if 0 ≤ x5 then (if x5 < (x1.length : Int) then (if (!(((rd_T51 x0 x5).f0) == ((rd_T51 x1 x5).f0)) || ((!(((rd_T51 x0 x5).f1.f0) == ((rd_T51 x1 x5).f1.f0)) || (!(((rd_T51 x0 x5).f1.f1) == ((rd_T51 x1 x5).f1.f1)))) || ((!(((rd_T51 x0 x5).f2.f0) == ((rd_T51 x1 x5).f2.f0)) || (!(((rd_T51 x0 x5).f2.f1) == ((rd_T51 x1 x5).f2.f1))))))) = true then (some false) else (cohousingref05_Same.l0 k x0 x1 (wrap64 (x5 + 1)))) else (none)) else (none)) else (some true)
def cohousingref05_Same.f (k : Nat) (l0 : List (S51)) (l1 : List (S51)) : Option (Bool) := if (l0.length : Int) = (l1.length : Int) then (cohousingref05_Same.l0 k l0 l1 0) else (some false)
theorem cohousingref05_Same.mono_l : ∀ k, (∀ y0 y1 y2, LeO (cohousingref05_Same.l0 k y0 y1 y2) (cohousingref05_Same.l0 (k + 1) y0 y1 y2))
 | 0 => fun _ _ _ r h => by simp [cohousingref05_Same.l0] at h
 | k + 1 => by
  have ih0 := cohousingref05_Same.mono_l k
  ·intro y0 y1 y2
   unfold cohousingref05_Same.l0
   repeat' first
   | (with_reducible exact ih0 _ _ _)
   | (with_reducible exact LeO.refl _)
   | (with_reducible exact LeO.none _)
   | (with_reducible refine LeO.ite ?_ ?_)
   | (with_reducible refine LeO.bind ?_ (fun _ => ?_))
   | exact ih0 _ _ _
   | exact LeO.none _
   | refine LeO.ite ?_ ?_
   | refine LeO.bind ?_ (fun _ => ?_)
theorem cohousingref05_Same.mono : ∀ a0 a1 k, LeO (cohousingref05_Same.f k a0 a1) (cohousingref05_Same.f (k + 1) a0 a1) := by
 intro a0 a1 k
 have ih0 := cohousingref05_Same.mono_l k
 unfold cohousingref05_Same.f
 repeat' first
   | (with_reducible exact ih0 _ _ _)
   | (with_reducible exact LeO.refl _)
   | (with_reducible exact LeO.none _)
   | (with_reducible refine LeO.ite ?_ ?_)
   | (with_reducible refine LeO.bind ?_ (fun _ => ?_))
   | exact ih0 _ _ _
   | exact LeO.none _
   | refine LeO.ite ?_ ?_
   | refine LeO.bind ?_ (fun _ => ?_)
theorem cohousingref05_Same.calls (k : Nat) (A0 : Option Addr) (c0 : Nat) (l0 : List (S51)) (A1 : Option Addr) (c1 : Nat) (l1 : List (S51)) (r : Bool) (w : World) (hr0 : Kd.C k51 w A0 l0.length l0) (hc0 : l0.length ≤ c0) (hr1 : Kd.C k51 w A1 l1.length l1) (hc1 : l1.length ≤ c1) (h : cohousingref05_Same.f k l0 l1 = some r) :
  Calls Try.prog 18 #[.slice A0 l0.length c0, .slice A1 l1.length c1] w fun e w' => e = .returned (.bool r) ∧ Drawn0 w w' := by
 have hu51 := Try.underlying51
 have HR0 := mk_ hr0
 have HC0 := mk_ hc0
 clear hr0 hc0
 have HR1 := mk_ hr1
 have HC1 := mk_ hc1
 clear hr1 hc1
 have H : (if (l0.length : Int) = (l1.length : Int) then (cohousingref05_Same.l0 k l0 l1 0) else (some false)) = some r := h
 clear h
 by_cases c3 : (l0.length : Int) = (l1.length : Int)
 rotate_left
 ·rw [if_neg c3] at H
  have c3b0 : ((l0.length : Int) == (l1.length : Int)) = false := beq_eq_false_iff_ne.mpr c3
  have c3b1 : ((l0.length : Int) != (l1.length : Int)) = true := bne_iff_ne.mpr c3
  have c3b2 : (l0.length == l1.length) = false := by first | simpa using c3 | (simp at c3 ⊢; omega)
  obtain rfl := Option.some.inj H
  go_enter Try.func18, Try.ntmps18
  go_wp2
  repeat (go_quiet (fail); try go_wp2)
  go_ret
  exact ⟨by first | rfl | (simp; done) | (simp [*]; done), by repeat (first | exact Drawn0.refl _ | apply Drawn0.step)⟩
 rw [if_pos c3] at H
 have c3b0 : ((l0.length : Int) == (l1.length : Int)) = true := beq_iff_eq.mpr c3
 have c3b1 : ((l0.length : Int) != (l1.length : Int)) = false := bne_eq_false_iff_eq.mpr c3
 have c3b2 : (l0.length == l1.length) = true := by first | simpa using c3 | (simp at c3 ⊢; omega)
 clear c3
 have H' := mk_ H
 clear H
 go_enter Try.func18, Try.ntmps18
 go_wp2
 repeat (go_quiet (fail); try go_wp2)
 go_loopg [5] k (fun kq v5 w' => ∃ (x5_1 : Int), v5 = .int .i64 x5_1 ∧ Aside0 (cohousingref05_Same.l0 kq l0 l1 x5_1 = some r) ∧ Aside0 (kq ≤ k) ∧ Drawn0 w w')
 case atStart => exact ⟨(0), sd_, H', ⟨Nat.le_refl _⟩, by repeat (first | exact Drawn0.refl _ | apply Drawn0.step)⟩
 case round =>
  clear H'
  try clear c1; try clear p2; try clear c3; try clear c3b0; try clear c3b1; try clear c3b2
  obtain ⟨x5_1, rfl, HA, HK1, ⟨m1, rfl⟩⟩ := hrel
  cases gk with
  | zero => exact absurd HA.out (by simp [cohousingref05_Same.l0])
  | succ k1 =>
   have H := HA.out
   clear HA
   simp only [cohousingref05_Same.l0] at H
   by_cases c4 : x5_1 < (l0.length : Int)
   rotate_left
   ·rw [if_neg c4] at H
    have c4b0 : decide (x5_1 < (l0.length : Int)) = false := decide_eq_false c4
    clear c4
    obtain rfl := Option.some.inj H
    go_wp2
    repeat (go_quiet (fail); try go_wp2)
    go_ret
    exact ⟨by first | rfl | (simp; done) | (simp [*]; done), by repeat (first | exact Drawn0.refl _ | apply Drawn0.step)⟩
   rw [if_pos c4] at H
   have c4b0 : decide (x5_1 < (l0.length : Int)) = true := decide_eq_true c4
   clear c4
   by_cases c5 : 0 ≤ x5_1
   rotate_left
   ·rw [if_neg c5] at H
    exact absurd H (by simp)
   rw [if_pos c5] at H
   have c5b0 : decide (0 ≤ x5_1) = true := decide_eq_true c5
   clear c5
   by_cases c6 : x5_1 < (l1.length : Int)
   rotate_left
   ·rw [if_neg c6] at H
    exact absurd H (by simp)
   rw [if_pos c6] at H
   have c6b0 : decide (x5_1 < (l1.length : Int)) = true := decide_eq_true c6
   clear c6
   by_cases c7 : (!(((rd_T51 l0 x5_1).f0) == ((rd_T51 l1 x5_1).f0)) || ((!(((rd_T51 l0 x5_1).f1.f0) == ((rd_T51 l1 x5_1).f1.f0)) || (!(((rd_T51 l0 x5_1).f1.f1) == ((rd_T51 l1 x5_1).f1.f1)))) || ((!(((rd_T51 l0 x5_1).f2.f0) == ((rd_T51 l1 x5_1).f2.f0)) || (!(((rd_T51 l0 x5_1).f2.f1) == ((rd_T51 l1 x5_1).f2.f1))))))) = true
   ·rw [if_pos c7] at H
    have c7b0 : (!(((rd_T51 l0 x5_1).f0) == ((rd_T51 l1 x5_1).f0)) || ((!(((rd_T51 l0 x5_1).f1.f0) == ((rd_T51 l1 x5_1).f1.f0)) || (!(((rd_T51 l0 x5_1).f1.f1) == ((rd_T51 l1 x5_1).f1.f1)))) || ((!(((rd_T51 l0 x5_1).f2.f0) == ((rd_T51 l1 x5_1).f2.f0)) || (!(((rd_T51 l0 x5_1).f2.f1) == ((rd_T51 l1 x5_1).f2.f1))))))) = true := c7
    clear c7
    obtain rfl := Option.some.inj H
    have p138 : 0 ≤ (x5_1 : Int) := od_
    have q138 : x5_1 < (l0.length : Int) := od_
    obtain ⟨ad138, e138, hx138_0, hx138_1, hx138_2, hx138_3, hx138_4⟩ := at_T51 HR0.out x5_1 p138 q138
    cases e138
    replace p138 := eq_true p138
    replace q138 := eq_true q138
    have p139 : 0 ≤ (x5_1 : Int) := od_
    have q139 : x5_1 < (l1.length : Int) := od_
    obtain ⟨ad139, e139, hx139_0, hx139_1, hx139_2, hx139_3, hx139_4⟩ := at_T51 HR1.out x5_1 p139 q139
    cases e139
    replace p139 := eq_true p139
    replace q139 := eq_true q139
    go_wp2
    repeat (go_quiet (fail); try go_wp2)
    go_ret
    exact ⟨by first | rfl | (simp; done) | (simp [*]; done), by repeat (first | exact Drawn0.refl _ | apply Drawn0.step)⟩
   rw [if_neg c7] at H
   have c7b0 : (!(((rd_T51 l0 x5_1).f0) == ((rd_T51 l1 x5_1).f0)) || ((!(((rd_T51 l0 x5_1).f1.f0) == ((rd_T51 l1 x5_1).f1.f0)) || (!(((rd_T51 l0 x5_1).f1.f1) == ((rd_T51 l1 x5_1).f1.f1)))) || ((!(((rd_T51 l0 x5_1).f2.f0) == ((rd_T51 l1 x5_1).f2.f0)) || (!(((rd_T51 l0 x5_1).f2.f1) == ((rd_T51 l1 x5_1).f2.f1))))))) = false := by simpa using c7
   clear c7
   have H' := mk_ H
   clear H
   have p138 : 0 ≤ (x5_1 : Int) := od_
   have q138 : x5_1 < (l0.length : Int) := od_
   obtain ⟨ad138, e138, hx138_0, hx138_1, hx138_2, hx138_3, hx138_4⟩ := at_T51 HR0.out x5_1 p138 q138
   cases e138
   replace p138 := eq_true p138
   replace q138 := eq_true q138
   have p139 : 0 ≤ (x5_1 : Int) := od_
   have q139 : x5_1 < (l1.length : Int) := od_
   obtain ⟨ad139, e139, hx139_0, hx139_1, hx139_2, hx139_3, hx139_4⟩ := at_T51 HR1.out x5_1 p139 q139
   cases e139
   replace p139 := eq_true p139
   replace q139 := eq_true q139
   go_wp2
   repeat (go_quiet (fail); try go_wp2)
   go_roundg k1
   case measure => have := HK1.out; omega
   case rel => exact ⟨(wrap64 (x5_1 + 1)), sd_, H', ⟨by have := HK1.out; omega⟩, by repeat (first | exact Drawn0.refl _ | apply Drawn0.step)⟩
end
end Go.Proofs.Ytmhimmodigeeiaa.P
end
