/- Part 3 of the base that the seat's proofs share: words, walks and plain laws. -/
import Derived.Test.YtmhimmodigeeiaaCMb
set_option linter.unusedVariables false
set_option linter.unusedSimpArgs false
section
namespace Go.Proofs.Ytmhimmodigeeiaa.P
open Go.RowKit Go.Proofs.YtmhimmodigeeiaaW.PrintWords Go.Proofs.YtmhimmodigeeiaaW.PrintLast Go.Proofs.YtmhimmodigeeiaaW.PrintMore
attribute [local go_sem] max2_int min2_int max_two min_two max_three min_three max_four min_four
set_option linter.unusedVariables false
set_option linter.unusedSimpArgs false
set_option maxHeartbeats 8000000
set_option maxRecDepth 100000
section
def piecewise_At.j0 : Nat → List (S51) → Int → Bool → Option (Int × Int × Int)
 | 0, _, _, _ => none
 | k + 1, x0, x1, x18 => if x18 = true then (some (0, 0, 1)) else ((piecewise_find.f x0 x1).bind fun bt121 => ((piecewise_line_at.f bt121.1 bt121.2.1 bt121.2.2.1 bt121.2.2.2 x1).bind fun t126 => ((piecewise_lowest.f k t126 bt121.2.2.1).bind fun bt127 => ((rational_Valid.f bt127.1 bt127.2).bind fun t130 => (if t130 = true then (some (bt127.1, bt127.2, 0)) else (some (0, 0, 3)))))))
def piecewise_At.f (k : Nat) (l0 : List (S51)) (a1 : Int) : Option (Int × Int × Int) := (piecewise_Valid.f k l0).bind fun t120 => (if t120 = true then (if a1 < 0 then (piecewise_At.j0 k l0 a1 true) else (piecewise_At.j0 k l0 a1 (decide (a1 > 100000)))) else (piecewise_At.j0 k l0 a1 true))
theorem piecewise_At.mono_l : ∀ k, (∀ y0 y1 y2, LeO (piecewise_At.j0 k y0 y1 y2) (piecewise_At.j0 (k + 1) y0 y1 y2))
 | 0 => fun _ _ _ r h => by simp [piecewise_At.j0] at h
 | k + 1 => by
  have ih0 := piecewise_At.mono_l k
  ·intro y0 y1 y2
   unfold piecewise_At.j0
   repeat' first
   | (with_reducible exact ih0 _ _ _)
   | (with_reducible exact piecewise_Valid.mono _ _)
   | (with_reducible exact piecewise_lowest.mono _ _ _)
   | (with_reducible exact LeO.refl _)
   | (with_reducible exact LeO.none _)
   | (with_reducible refine LeO.ite ?_ ?_)
   | (with_reducible refine LeO.bind ?_ (fun _ => ?_))
   | exact ih0 _ _ _
   | exact piecewise_Valid.mono _ _
   | exact piecewise_lowest.mono _ _ _
   | exact LeO.none _
   | refine LeO.ite ?_ ?_
   | refine LeO.bind ?_ (fun _ => ?_)
theorem piecewise_At.mono : ∀ a0 a1 k, LeO (piecewise_At.f k a0 a1) (piecewise_At.f (k + 1) a0 a1) := by
 intro a0 a1 k
 have ih0 := piecewise_At.mono_l k
 unfold piecewise_At.f
 repeat' first
   | (with_reducible exact ih0 _ _ _)
   | (with_reducible exact piecewise_Valid.mono _ _)
   | (with_reducible exact piecewise_lowest.mono _ _ _)
   | (with_reducible exact LeO.refl _)
   | (with_reducible exact LeO.none _)
   | (with_reducible refine LeO.ite ?_ ?_)
   | (with_reducible refine LeO.bind ?_ (fun _ => ?_))
   | exact ih0 _ _ _
   | exact piecewise_Valid.mono _ _
   | exact piecewise_lowest.mono _ _ _
   | exact LeO.none _
   | refine LeO.ite ?_ ?_
   | refine LeO.bind ?_ (fun _ => ?_)
def piecewise_At.T4 : Bool × List (List Nat × List Nat) := (true, [([], []), ([], []), ([0, 1], [0, 1]), ([], []), ([3], [3]), ([2, 4, 2], [2, 4]), ([], []), ([6, 5, 5, 0, 1, 2, 3, 4, 5, 6], [5, 6])])
def piecewise_At.B4 : List Nat := [0, 0, 3, 0, 8, 31, 0, 127]
theorem piecewise_At.tab4 : rtab .any (opsOf Try.f12 4) = piecewise_At.T4 := by kernel_rfl
theorem piecewise_At.bits4 : waitsOk piecewise_At.T4.2 piecewise_At.B4 = true := by kernel_rfl
theorem piecewise_At.calls (k : Nat) (A0 : Option Addr) (c0 : Nat) (l0 : List (S51)) (a1 : Int) (r1 : Int) (r2 : Int) (r3 : Int) (w : World) (hr0 : Kd.C k51 w A0 l0.length l0) (hc0 : l0.length ≤ c0) (h : piecewise_At.f k l0 a1 = some (r1, r2, r3)) :
  Calls Try.prog 12 #[.slice A0 l0.length c0, .int .i64 a1] w fun e w' => e = .returned (.tuple #[.agg #[.int .i64 r1, .int .i64 r2], .int .i64 r3]) ∧ Below w.heap.size w w' := by
 have hu24 := Try.underlying24
 have hu54 := Try.underlying54
 have HR0 := mk_ hr0
 have HC0 := mk_ hc0
 clear hr0 hc0
 have HB := mk_ (Below.refl w.heap.size w)
 have H : ((piecewise_Valid.f k l0).bind fun t120 => (if t120 = true then (if a1 < 0 then (piecewise_At.j0 k l0 a1 true) else (piecewise_At.j0 k l0 a1 (decide (a1 > 100000)))) else (piecewise_At.j0 k l0 a1 true))) = some (r1, r2, r3) := h
 clear h
 have HC3 := mk_ H
 clear H
 go_enter Try.func12, Try.ntmps12
 go_upto_region 1 with (first | ((with_reducible refine gate_dst (N := 4) rfl ?_); refine box_event ?hg (N := 4) ?hd (cs := #[.int .i64 0, .int .i64 0]) (t := 24) ?hr ?_; (case hd => rfl); (case hg => rfl); (case hr => first | (go_simp; done) | (go_simp; rfl)); intro gb119 hg w4 hbox hb; have BK119 := mk_ (hbox); have GW119 := mk_ (bz_ hg (bb_ HB)); have GE119 := mk_ (bz_ hg (bb_ HB)); replace HB := mk_ (below_step (bb_ HB) hb); clear hb hbox hg))
 (try simp only [Act.put, sI_, s0_, sS_])
 go_cut [18] (fun v18 wc => ∃ (kq : Nat) (x18_2 : Bool), v18 = .bool x18_2 ∧ Aside0 (piecewise_At.j0 kq l0 a1 x18_2 = some (r1, r2, r3)) ∧ Aside0 (kq ≤ k) ∧ Aside0 (wc.heap[gb119]? = some (.cells #[.int .i64 0, .int .i64 0] 24 (0, 0))) ∧ Aside0 (Below w.heap.size w wc))
 case first =>
  have H := HC3.out
  clear HC3
  replace H := Option.bind_eq_some_iff.mp H
  obtain ⟨t120, A50, H⟩ := H
  replace H : (if t120 = true then (if a1 < 0 then (piecewise_At.j0 k l0 a1 true) else (piecewise_At.j0 k l0 a1 (decide (a1 > 100000)))) else (piecewise_At.j0 k l0 a1 true)) = some (r1, r2, r3) := H
  have A5 := mk_ A50
  clear A50
  by_cases c6 : t120 = true
  rotate_left
  ·replace c6 := Bool.eq_false_iff.mpr c6
   subst c6
   have H1 : (piecewise_At.j0 k l0 a1 true) = some (r1, r2, r3) := by rw [if_neg (show ¬ (false = true) by decide)] at H; exact H
   clear H
   have H := H1
   clear H1
   have H' := mk_ H
   clear H
   go_wp2_with (first | ((with_reducible refine gate_callee (f := 14) rfl ?_); refine gl_ (some 9) Try.func14 #[.slice A0 l0.length c0] ?_; (with_reducible refine (piecewise_Valid.calls k _ _ l0 false _ ?side1 ?side2 A5.out).mono ?_); (case side1 => exact cc_ ((Kd.C_below HR0.out HB.out))); (case side2 => exact HC0.out); rintro e w10 ⟨rfl, hb⟩; refine ⟨_, rfl, ?_⟩; replace BK119 := mk_ (blk_below (kk_ BK119) hb); replace HB := mk_ (below_step (bs_ HB GE119.out) hb); (try clear hb)))
   go_meet
   case rel => exact ⟨_, (true), sd_, H', ⟨by first | omega | exact Nat.le_refl _⟩, ⟨kk_ BK119⟩, ⟨bs1_ HB GE119⟩⟩
  subst c6
  have H1 : (if a1 < 0 then (piecewise_At.j0 k l0 a1 true) else (piecewise_At.j0 k l0 a1 (decide (a1 > 100000)))) = some (r1, r2, r3) := by rw [if_pos rfl] at H; exact H
  clear H
  have H := H1
  clear H1
  by_cases c7 : a1 < 0
  case' _ =>
   rw [if_pos c7] at H
   have c7b0 : decide (a1 < 0) = true := decide_eq_true c7
   clear c7
   (first | rw [c7b0] | (simp only [i64_w, i32_w]; rw [c7b0]) | skip)
   have H' := mk_ H
   clear H
  rotate_left
  case' _ =>
   rw [if_neg c7] at H
   have c7b0 : decide (a1 < 0) = false := decide_eq_false c7
   clear c7
   (first | rw [c7b0] | (simp only [i64_w, i32_w]; rw [c7b0]) | skip)
   have H' := mk_ H
   clear H
  rotate_left
  all_goals go_wp2_with (first | ((with_reducible refine gate_callee (f := 14) rfl ?_); refine gl_ (some 9) Try.func14 #[.slice A0 l0.length c0] ?_; (with_reducible refine (piecewise_Valid.calls k _ _ l0 true _ ?side1 ?side2 A5.out).mono ?_); (case side1 => exact cc_ ((Kd.C_below HR0.out HB.out))); (case side2 => exact HC0.out); rintro e w8 ⟨rfl, hb⟩; refine ⟨_, rfl, ?_⟩; replace BK119 := mk_ (blk_below (kk_ BK119) hb); replace HB := mk_ (below_step (bs_ HB GE119.out) hb); (try clear hb)))
  ·go_meet
   case rel => exact ⟨_, (true), sd_, H', ⟨by first | omega | exact Nat.le_refl _⟩, ⟨kk_ BK119⟩, ⟨bs1_ HB GE119⟩⟩
  ·go_meet
   case rel => exact ⟨_, (decide (a1 > 100000)), sd_, H', ⟨by first | omega | exact Nat.le_refl _⟩, ⟨kk_ BK119⟩, ⟨bs1_ HB GE119⟩⟩
 case rest =>
  clear HC3
  obtain ⟨kq, x18_2, rfl, HA, HJ2, BK119, HB⟩ := hcut
  cases kq with
  | zero => exact absurd HA.out (by simp [piecewise_At.j0])
  | succ kj2 =>
   have H := HA.out
   clear HA
   simp only [piecewise_At.j0] at H
   by_cases c11 : x18_2 = true
   ·subst c11
    have H1 : (some (0, 0, 1)) = some (r1, r2, r3) := by rw [if_pos rfl] at H; exact H
    clear H
    have H := H1
    clear H1
    simp only [Option.some.injEq, Prod.mk.injEq] at H
    obtain ⟨rfl, rfl, rfl⟩ := H
    have hcz12_0 := bc0_ BK119.out
    have hcz12_1 := bc1_ BK119.out
    have hfz12_0 := blk_frozen BK119.out 0
    have hfz12_1 := blk_frozen BK119.out 1
    go_wp2
    refine bodyPost_ret (results_ct rfl _ _ gb119 24 #[.int .i64 0, .int .i64 0] (0, 0) _ rfl (by (with_reducible repeat (first | refine blk_drewN ?_ _ | refine blk_drew ?_ | refine blk_alloc ?_ _)); refine blk_put (cs := #[.int .i64 0, .int .i64 0]) ?_ 1 _ rfl; (with_reducible repeat (first | refine blk_drewN ?_ _ | refine blk_drew ?_ | refine blk_alloc ?_ _)); refine blk_put (cs := #[.int .i64 0, .int .i64 0]) ?_ 0 _ rfl; (with_reducible repeat (first | refine blk_drewN ?_ _ | refine blk_drew ?_ | refine blk_alloc ?_ _)); exact BK119.out) Try.underlying24 rfl (by kernel_rfl)) rfl ?_
    exact ⟨ew_, bs1_ HB GE119⟩
   replace c11 := Bool.eq_false_iff.mpr c11
   subst c11
   have H1 : ((piecewise_find.f l0 a1).bind fun bt121 => ((piecewise_line_at.f bt121.1 bt121.2.1 bt121.2.2.1 bt121.2.2.2 a1).bind fun t126 => ((piecewise_lowest.f kj2 t126 bt121.2.2.1).bind fun bt127 => ((rational_Valid.f bt127.1 bt127.2).bind fun t130 => (if t130 = true then (some (bt127.1, bt127.2, 0)) else (some (0, 0, 3))))))) = some (r1, r2, r3) := by rw [if_neg (show ¬ (false = true) by decide)] at H; exact H
   clear H
   have H := H1
   clear H1
   replace H := Option.bind_eq_some_iff.mp H
   obtain ⟨⟨t121, t122, t123, t124⟩, A130, H⟩ := H
   replace H : ((piecewise_line_at.f t121 t122 t123 t124 a1).bind fun t126 => ((piecewise_lowest.f kj2 t126 t123).bind fun bt127 => ((rational_Valid.f bt127.1 bt127.2).bind fun t130 => (if t130 = true then (some (bt127.1, bt127.2, 0)) else (some (0, 0, 3)))))) = some (r1, r2, r3) := H
   have A13 := mk_ A130
   clear A130
   replace H := Option.bind_eq_some_iff.mp H
   obtain ⟨t126, A140, H⟩ := H
   replace H : ((piecewise_lowest.f kj2 t126 t123).bind fun bt127 => ((rational_Valid.f bt127.1 bt127.2).bind fun t130 => (if t130 = true then (some (bt127.1, bt127.2, 0)) else (some (0, 0, 3))))) = some (r1, r2, r3) := H
   have A14 := mk_ A140
   clear A140
   replace H := Option.bind_eq_some_iff.mp H
   obtain ⟨⟨t127, t128⟩, A150, H⟩ := H
   replace H : ((rational_Valid.f t127 t128).bind fun t130 => (if t130 = true then (some (t127, t128, 0)) else (some (0, 0, 3)))) = some (r1, r2, r3) := H
   have A15 := mk_ A150
   clear A150
   replace H := Option.bind_eq_some_iff.mp H
   obtain ⟨t130, A160, H⟩ := H
   replace H : (if t130 = true then (some (t127, t128, 0)) else (some (0, 0, 3))) = some (r1, r2, r3) := H
   have A16 := mk_ A160
   clear A160
   have Hmc17_ := mk_ H
   clear H
   try go_wp2_with (first | ((with_reducible refine gate_callee (f := 34) rfl ?_); refine gl_ (some 22) Try.func34 #[.slice A0 l0.length c0, .int .i64 a1] ?_; (with_reducible refine (piecewise_find.calls _ _ l0 a1 t121 t122 t123 t124 _ ?side1 ?side2 A13.out).mono ?_); (case side1 => exact cc_ ((Kd.C_below HR0.out HB.out))); (case side2 => exact HC0.out); rintro e w18 ⟨rfl, hb⟩; refine ⟨_, rfl, ?_⟩; replace BK119 := mk_ (blk_below (kk_ BK119) hb); replace HB := mk_ (below_step (bs_ HB GE119.out) hb); (try clear hb)) | ((with_reducible refine gate_dst (N := 6) rfl ?_); refine box_event ?hg (N := 6) ?hd (cs := #[.int .i64 0, .int .i64 0, .int .i64 0, .int .i64 0]) (t := 54) ?hr ?_; (case hd => rfl); (case hg => rfl); (case hr => first | (go_simp; done) | (go_simp; rfl)); intro gb125 hg w19 hbox hb; have BK125 := mk_ (hbox); have GW125 := mk_ (bz_ hg (bs_ HB GE119.out)); have GE125 := mk_ (bz_ hg (bs_ HB GE119.out)); replace HB := mk_ (below_step (bs_ HB GE119.out) hb); have NB119_125 := mk_ (bl_ hg (kk_ BK119)); have NB125_119 := mk_ (bg_ hg (kk_ BK119)); replace BK119 := mk_ (blk_below (kk_ BK119) hb); clear hb hbox hg; have hnb20 := NB125_119.out; have hnc20 := NB119_125.out; have hcz21_0 := bc0_ BK125.out; have hcz21_1 := bc1_ BK125.out; have hcz21_2 := bc2_ BK125.out; have hcz21_3 : w19.cell? ⟨gb125, 3, none⟩ = some (.int .i64 0) := (blk_cell BK125.out 3).trans rfl; have hfz21_0 := blk_frozen BK125.out 0; have hfz21_1 := blk_frozen BK125.out 1; have hfz21_2 := blk_frozen BK125.out 2; have hfz21_3 := blk_frozen BK125.out 3))
   have n0_ : Aside0 (((((w19.setCell ⟨gb125, 0, none⟩ (.int .i64 t121)).setCell ⟨gb125, 1, none⟩ (.int .i64 t122)).setCell ⟨gb125, 2, none⟩ (.int .i64 t123)).setCell ⟨gb125, 3, none⟩ (.int .i64 t124)).heap[gb119]? = some (.cells #[.int .i64 0, .int .i64 0] 24 (0, 0))) := ⟨by (with_reducible repeat (first | refine blk_drewN ?_ _ | refine blk_drew ?_ | refine blk_alloc ?_ _)); refine blk_far ?_ NB119_125.out _; (with_reducible repeat (first | refine blk_drewN ?_ _ | refine blk_drew ?_ | refine blk_alloc ?_ _)); refine blk_far ?_ NB119_125.out _; (with_reducible repeat (first | refine blk_drewN ?_ _ | refine blk_drew ?_ | refine blk_alloc ?_ _)); refine blk_far ?_ NB119_125.out _; (with_reducible repeat (first | refine blk_drewN ?_ _ | refine blk_drew ?_ | refine blk_alloc ?_ _)); refine blk_far ?_ NB119_125.out _; (with_reducible repeat (first | refine blk_drewN ?_ _ | refine blk_drew ?_ | refine blk_alloc ?_ _)); exact BK119.out⟩
   have n1_ : Aside0 (((((w19.setCell ⟨gb125, 0, none⟩ (.int .i64 t121)).setCell ⟨gb125, 1, none⟩ (.int .i64 t122)).setCell ⟨gb125, 2, none⟩ (.int .i64 t123)).setCell ⟨gb125, 3, none⟩ (.int .i64 t124)).heap[gb125]? = some (.cells #[.int .i64 t121, .int .i64 t122, .int .i64 t123, .int .i64 t124] 54 (0, 0))) := ⟨by (with_reducible repeat (first | refine blk_drewN ?_ _ | refine blk_drew ?_ | refine blk_alloc ?_ _)); refine blk_put (cs := #[.int .i64 t121, .int .i64 t122, .int .i64 t123, .int .i64 0]) ?_ 3 _ rfl; (with_reducible repeat (first | refine blk_drewN ?_ _ | refine blk_drew ?_ | refine blk_alloc ?_ _)); refine blk_put (cs := #[.int .i64 t121, .int .i64 t122, .int .i64 0, .int .i64 0]) ?_ 2 _ rfl; (with_reducible repeat (first | refine blk_drewN ?_ _ | refine blk_drew ?_ | refine blk_alloc ?_ _)); refine blk_put (cs := #[.int .i64 t121, .int .i64 0, .int .i64 0, .int .i64 0]) ?_ 1 _ rfl; (with_reducible repeat (first | refine blk_drewN ?_ _ | refine blk_drew ?_ | refine blk_alloc ?_ _)); refine blk_put (cs := #[.int .i64 0, .int .i64 0, .int .i64 0, .int .i64 0]) ?_ 0 _ rfl; (with_reducible repeat (first | refine blk_drewN ?_ _ | refine blk_drew ?_ | refine blk_alloc ?_ _)); exact BK125.out⟩
   have n2_ : Aside0 (Below w.heap.size w ((((w19.setCell ⟨gb125, 0, none⟩ (.int .i64 t121)).setCell ⟨gb125, 1, none⟩ (.int .i64 t122)).setCell ⟨gb125, 2, none⟩ (.int .i64 t123)).setCell ⟨gb125, 3, none⟩ (.int .i64 t124))) := ⟨bs2_ HB GE119 GE125⟩
   (try clear BK119)
   (try clear BK125)
   (try clear HB)
   generalize ((((w19.setCell ⟨gb125, 0, none⟩ (.int .i64 t121)).setCell ⟨gb125, 1, none⟩ (.int .i64 t122)).setCell ⟨gb125, 2, none⟩ (.int .i64 t123)).setCell ⟨gb125, 3, none⟩ (.int .i64 t124)) = w22 at n0_ n1_ n2_ ⊢
   have BK119 := n0_
   have BK125 := n1_
   have HB := n2_
   clear n0_ n1_ n2_
   replace BK119 := mk_ (blk_drew BK119.out)
   replace BK125 := mk_ (blk_drew BK125.out)
   replace HB := mk_ (below_drew1 HB.out)
   refine start_ (n := 8) (S := fun w' => w'.cell? ⟨gb125, 0, none⟩ = some (.int .i64 t121) ∧ w'.cell? ⟨gb125, 1, none⟩ = some (.int .i64 t122) ∧ w'.cell? ⟨gb125, 2, none⟩ = some (.int .i64 t123) ∧ w'.cell? ⟨gb125, 3, none⟩ = some (.int .i64 t124)) (ds := []) #[n_, n_, n_, n_, n_, n_, n_, n_] (by kernel_rfl) rfl rfl ⟨(blk_cell BK125.out 0).trans rfl, (blk_cell BK125.out 1).trans rfl, (blk_cell BK125.out 2).trans rfl, (blk_cell BK125.out 3).trans rfl⟩ (fun hHeld => ?_); refine with_tabW piecewise_At.tab4 piecewise_At.bits4 (fun HT_ HW_ => ?_)
   generalize w22.drew = w23 at BK119 BK125 HB hHeld ⊢
   refine pu_ 1 24 (w_ 8 2) rfl HT_ ?_
   refine pu_ 3 26 (w_ 8 10) rfl HT_ ?_
   refine ta_ 0 23 (w_ 8 11) rfl HT_ HW_ hHeld (by rintro w' ⟨s0, s1, s2, s3⟩; go_simp; with_reducible rfl) ?_
   refine ta_ 4 27 (w_ 8 27) rfl HT_ HW_ hHeld (by rintro w' ⟨s0, s1, s2, s3⟩; go_simp; with_reducible rfl) ?_
   refine join_ (σ := Nat) 1 #[y_, y_, y_, y_, y_, y_, y_, n_] (fun s_ => [(25, .int .i64 t126), (28, .agg #[.int .i64 t127, .int .i64 t128]), (7, .pointer (some ⟨s_, 0, none⟩))]) (fun s_ w' => (w'.cell? ⟨gb125, 0, none⟩ = some (.int .i64 t121) ∧ w'.cell? ⟨gb125, 1, none⟩ = some (.int .i64 t122) ∧ w'.cell? ⟨gb125, 2, none⟩ = some (.int .i64 t123) ∧ w'.cell? ⟨gb125, 3, none⟩ = some (.int .i64 t124)) ∧ (w'.heap[gb119]? = some (.cells #[.int .i64 0, .int .i64 0] 24 (0, 0))) ∧ (w'.heap[gb125]? = some (.cells #[.int .i64 t121, .int .i64 t122, .int .i64 t123, .int .i64 t124] 54 (0, 0))) ∧ (w'.heap[s_]? = some (.cells #[.int .i64 0, .int .i64 0] 24 (0, 0))) ∧ (w.heap.size ≤ s_) ∧ (w.heap.size ≤ s_) ∧ (gb119 ≠ s_) ∧ (s_ ≠ gb119) ∧ (gb125 ≠ s_) ∧ (s_ ≠ gb125) ∧ (Below w.heap.size w w')) ?_ ?_
   rotate_left
   ·intro hCont
    refine two_ (i := 2) (j := 6) (Ni := some 25) (Nj := some 7) #[y_, y_, y_, y_, y_, n_, n_, n_] #[y_, y_, n_, y_, y_, n_, y_, n_] rfl rfl rfl rfl (two_of HT_.out (by kernel_rfl)) (by decide) (by decide) (fun K hK => ?_) (fun K hK => ?_)
    ·skip
     refine goes_ Try.func36 (by kernel_rfl) rfl #[.agg #[.int .i64 t121, .int .i64 t122, .int .i64 t123, .int .i64 t124], .int .i64 a1] (by rfl) rfl rfl (by (try simp only [List.map_toArray, List.map_cons, List.map_nil]); first | done | rfl | (simp only [List.length_drop, List.length_take]; rfl)) ?_
     with_reducible refine (piecewise_line_at.calls t121 t122 t123 t124 a1 t126 _ A14.out).mono ?_
     rintro e w24 ⟨rfl, hb⟩
     refine ⟨_, rfl, ?_⟩
     replace BK119 := mk_ (blk_below (kk_ BK119) hb)
     replace BK125 := mk_ (blk_below (kk_ BK125) hb)
     replace HB := mk_ (below_step (bs2_ HB GE119 GE125) hb)
     (try clear hb)
     refine hK.out _ _ ⟨(blk_cell BK125.out 0).trans rfl, (blk_cell BK125.out 1).trans rfl, (blk_cell BK125.out 2).trans rfl, (blk_cell BK125.out 3).trans rfl⟩ (fun hHeld => ?_)
     clear hK K
     refine norm_ (a' := ?_) ?_ ?_
     rotate_left
     ·show Act.put _ (some 25) _ = _
      simp only [Act.put, sI_, s0_, sS_, i64_w, i32_w]
      rfl
     refine two_ (i := 5) (j := 6) (Ni := some 28) (Nj := some 7) #[y_, y_, y_, y_, y_, y_, n_, n_] #[y_, y_, y_, y_, y_, n_, y_, n_] rfl rfl rfl rfl (two_of HT_.out (by kernel_rfl)) (by decide) (by decide) (fun K hK => ?_) (fun K hK => ?_)
     ·skip
      refine goes_ Try.func35 (by kernel_rfl) rfl #[.int .i64 t126, .int .i64 t123] (by rfl) rfl rfl (by (try simp only [List.map_toArray, List.map_cons, List.map_nil]); first | done | rfl | (simp only [List.length_drop, List.length_take]; rfl)) ?_
      with_reducible refine (piecewise_lowest.calls kj2 t126 t123 t127 t128 _ A15.out).mono ?_
      rintro e w25 ⟨rfl, hb⟩
      refine ⟨_, rfl, ?_⟩
      replace BK119 := mk_ (blk_below (kk_ BK119) hb)
      replace BK125 := mk_ (blk_below (kk_ BK125) hb)
      replace HB := mk_ (below_step (bs2_ HB GE119 GE125) hb)
      (try clear hb)
      refine hK.out _ _ ⟨(blk_cell BK125.out 0).trans rfl, (blk_cell BK125.out 1).trans rfl, (blk_cell BK125.out 2).trans rfl, (blk_cell BK125.out 3).trans rfl⟩ (fun hHeld => ?_)
      clear hK K
      refine norm_ (a' := ?_) ?_ ?_
      rotate_left
      ·show Act.put _ (some 28) _ = _
       simp only [Act.put, sI_, s0_, sS_, i64_w, i32_w]
       rfl
      refine one_ (i := 6) (N := some 7) (w_ 8 127) rfl rfl (one_of HT_.out (by kernel_rfl)) (by decide) (fun K hK => ?_)
      refine box_step ?hg (N := 7) ?hd (cs := #[.int .i64 0, .int .i64 0]) (t := 24) ?hr ?_; (case hd => rfl); (case hg => rfl); (case hr => first | (go_simp; done) | (go_simp; rfl))
      intro gb129 hg w26 hbox hb
      have BK129 := mk_ (hbox)
      have GW129 := mk_ (bz_ hg (bs2_ HB GE119 GE125))
      have GE129 := mk_ (bz_ hg (bs2_ HB GE119 GE125))
      replace HB := mk_ (below_step (bs2_ HB GE119 GE125) hb)
      have NB119_129 := mk_ (bl_ hg (kk_ BK119))
      have NB129_119 := mk_ (bg_ hg (kk_ BK119))
      replace BK119 := mk_ (blk_below (kk_ BK119) hb)
      have NB125_129 := mk_ (bl_ hg (kk_ BK125))
      have NB129_125 := mk_ (bg_ hg (kk_ BK125))
      replace BK125 := mk_ (blk_below (kk_ BK125) hb)
      clear hb hbox hg
      refine hK.out _ _ ⟨(blk_cell BK125.out 0).trans rfl, (blk_cell BK125.out 1).trans rfl, (blk_cell BK125.out 2).trans rfl, (blk_cell BK125.out 3).trans rfl⟩ (fun hHeld => ?_)
      clear hK K
      refine norm_ (a' := ?_) ?_ ?_
      rotate_left
      ·show Act.put _ (some 7) _ = _
       simp only [Act.put, sI_, s0_, sS_, i64_w, i32_w]
       rfl
      exact norm_ (by simp only [putAll, Act.put, sI_, s0_, sS_]) (hCont (gb129) _ ⟨hHeld, (kk_ BK119), (kk_ BK125), (kk_ BK129), GW129.out, GE129.out, NB119_129.out, NB129_119.out, NB125_129.out, NB129_125.out, (bs3_ HB GE119 GE125 GE129)⟩)
     ·skip
      refine box_step ?hg (N := 7) ?hd (cs := #[.int .i64 0, .int .i64 0]) (t := 24) ?hr ?_; (case hd => rfl); (case hg => rfl); (case hr => first | (go_simp; done) | (go_simp; rfl))
      intro gb129 hg w25 hbox hb
      have BK129 := mk_ (hbox)
      have GW129 := mk_ (bz_ hg (bs2_ HB GE119 GE125))
      have GE129 := mk_ (bz_ hg (bs2_ HB GE119 GE125))
      replace HB := mk_ (below_step (bs2_ HB GE119 GE125) hb)
      have NB119_129 := mk_ (bl_ hg (kk_ BK119))
      have NB129_119 := mk_ (bg_ hg (kk_ BK119))
      replace BK119 := mk_ (blk_below (kk_ BK119) hb)
      have NB125_129 := mk_ (bl_ hg (kk_ BK125))
      have NB129_125 := mk_ (bg_ hg (kk_ BK125))
      replace BK125 := mk_ (blk_below (kk_ BK125) hb)
      clear hb hbox hg
      refine hK.out _ _ ⟨(blk_cell BK125.out 0).trans rfl, (blk_cell BK125.out 1).trans rfl, (blk_cell BK125.out 2).trans rfl, (blk_cell BK125.out 3).trans rfl⟩ (fun hHeld => ?_)
      clear hK K
      refine norm_ (a' := ?_) ?_ ?_
      rotate_left
      ·show Act.put _ (some 7) _ = _
       simp only [Act.put, sI_, s0_, sS_, i64_w, i32_w]
       rfl
      refine one_ (i := 5) (N := some 28) (w_ 8 127) rfl rfl (one_of HT_.out (by kernel_rfl)) (by decide) (fun K hK => ?_)
      refine goes_ Try.func35 (by kernel_rfl) rfl #[.int .i64 t126, .int .i64 t123] (by rfl) rfl rfl (by (try simp only [List.map_toArray, List.map_cons, List.map_nil]); first | done | rfl | (simp only [List.length_drop, List.length_take]; rfl)) ?_
      with_reducible refine (piecewise_lowest.calls kj2 t126 t123 t127 t128 _ A15.out).mono ?_
      rintro e w26 ⟨rfl, hb⟩
      refine ⟨_, rfl, ?_⟩
      replace BK119 := mk_ (blk_below (kk_ BK119) hb)
      replace BK125 := mk_ (blk_below (kk_ BK125) hb)
      replace BK129 := mk_ (blk_below (kk_ BK129) hb)
      replace HB := mk_ (below_step (bs3_ HB GE119 GE125 GE129) hb)
      (try clear hb)
      refine hK.out _ _ ⟨(blk_cell BK125.out 0).trans rfl, (blk_cell BK125.out 1).trans rfl, (blk_cell BK125.out 2).trans rfl, (blk_cell BK125.out 3).trans rfl⟩ (fun hHeld => ?_)
      clear hK K
      refine norm_ (a' := ?_) ?_ ?_
      rotate_left
      ·show Act.put _ (some 28) _ = _
       simp only [Act.put, sI_, s0_, sS_, i64_w, i32_w]
       rfl
      exact norm_ (by simp only [putAll, Act.put, sI_, s0_, sS_]) (hCont (gb129) _ ⟨hHeld, (kk_ BK119), (kk_ BK125), (kk_ BK129), GW129.out, GE129.out, NB119_129.out, NB129_119.out, NB125_129.out, NB129_125.out, (bs3_ HB GE119 GE125 GE129)⟩)
    ·skip
     refine box_step ?hg (N := 7) ?hd (cs := #[.int .i64 0, .int .i64 0]) (t := 24) ?hr ?_; (case hd => rfl); (case hg => rfl); (case hr => first | (go_simp; done) | (go_simp; rfl))
     intro gb129 hg w24 hbox hb
     have BK129 := mk_ (hbox)
     have GW129 := mk_ (bz_ hg (bs2_ HB GE119 GE125))
     have GE129 := mk_ (bz_ hg (bs2_ HB GE119 GE125))
     replace HB := mk_ (below_step (bs2_ HB GE119 GE125) hb)
     have NB119_129 := mk_ (bl_ hg (kk_ BK119))
     have NB129_119 := mk_ (bg_ hg (kk_ BK119))
     replace BK119 := mk_ (blk_below (kk_ BK119) hb)
     have NB125_129 := mk_ (bl_ hg (kk_ BK125))
     have NB129_125 := mk_ (bg_ hg (kk_ BK125))
     replace BK125 := mk_ (blk_below (kk_ BK125) hb)
     clear hb hbox hg
     refine hK.out _ _ ⟨(blk_cell BK125.out 0).trans rfl, (blk_cell BK125.out 1).trans rfl, (blk_cell BK125.out 2).trans rfl, (blk_cell BK125.out 3).trans rfl⟩ (fun hHeld => ?_)
     clear hK K
     refine norm_ (a' := ?_) ?_ ?_
     rotate_left
     ·show Act.put _ (some 7) _ = _
      simp only [Act.put, sI_, s0_, sS_, i64_w, i32_w]
      rfl
     refine one_ (i := 2) (N := some 25) (w_ 8 95) rfl rfl (one_of HT_.out (by kernel_rfl)) (by decide) (fun K hK => ?_)
     refine goes_ Try.func36 (by kernel_rfl) rfl #[.agg #[.int .i64 t121, .int .i64 t122, .int .i64 t123, .int .i64 t124], .int .i64 a1] (by rfl) rfl rfl (by (try simp only [List.map_toArray, List.map_cons, List.map_nil]); first | done | rfl | (simp only [List.length_drop, List.length_take]; rfl)) ?_
     with_reducible refine (piecewise_line_at.calls t121 t122 t123 t124 a1 t126 _ A14.out).mono ?_
     rintro e w25 ⟨rfl, hb⟩
     refine ⟨_, rfl, ?_⟩
     replace BK119 := mk_ (blk_below (kk_ BK119) hb)
     replace BK125 := mk_ (blk_below (kk_ BK125) hb)
     replace BK129 := mk_ (blk_below (kk_ BK129) hb)
     replace HB := mk_ (below_step (bs3_ HB GE119 GE125 GE129) hb)
     (try clear hb)
     refine hK.out _ _ ⟨(blk_cell BK125.out 0).trans rfl, (blk_cell BK125.out 1).trans rfl, (blk_cell BK125.out 2).trans rfl, (blk_cell BK125.out 3).trans rfl⟩ (fun hHeld => ?_)
     clear hK K
     refine norm_ (a' := ?_) ?_ ?_
     rotate_left
     ·show Act.put _ (some 25) _ = _
      simp only [Act.put, sI_, s0_, sS_, i64_w, i32_w]
      rfl
     refine one_ (i := 5) (N := some 28) (w_ 8 127) rfl rfl (one_of HT_.out (by kernel_rfl)) (by decide) (fun K hK => ?_)
     refine goes_ Try.func35 (by kernel_rfl) rfl #[.int .i64 t126, .int .i64 t123] (by rfl) rfl rfl (by (try simp only [List.map_toArray, List.map_cons, List.map_nil]); first | done | rfl | (simp only [List.length_drop, List.length_take]; rfl)) ?_
     with_reducible refine (piecewise_lowest.calls kj2 t126 t123 t127 t128 _ A15.out).mono ?_
     rintro e w26 ⟨rfl, hb⟩
     refine ⟨_, rfl, ?_⟩
     replace BK119 := mk_ (blk_below (kk_ BK119) hb)
     replace BK125 := mk_ (blk_below (kk_ BK125) hb)
     replace BK129 := mk_ (blk_below (kk_ BK129) hb)
     replace HB := mk_ (below_step (bs3_ HB GE119 GE125 GE129) hb)
     (try clear hb)
     refine hK.out _ _ ⟨(blk_cell BK125.out 0).trans rfl, (blk_cell BK125.out 1).trans rfl, (blk_cell BK125.out 2).trans rfl, (blk_cell BK125.out 3).trans rfl⟩ (fun hHeld => ?_)
     clear hK K
     refine norm_ (a' := ?_) ?_ ?_
     rotate_left
     ·show Act.put _ (some 28) _ = _
      simp only [Act.put, sI_, s0_, sS_, i64_w, i32_w]
      rfl
     exact norm_ (by simp only [putAll, Act.put, sI_, s0_, sS_]) (hCont (gb129) _ ⟨hHeld, (kk_ BK119), (kk_ BK125), (kk_ BK129), GW129.out, GE129.out, NB119_129.out, NB129_119.out, NB125_129.out, NB129_125.out, (bs3_ HB GE119 GE125 GE129)⟩)
   rintro gb129 w27 ⟨hS_, h0_, h1_, h2_, h3_, h4_, h5_, h6_, h7_, h8_, h9_⟩
   have n0_ : Aside0 (w27.heap[gb119]? = some (.cells #[.int .i64 0, .int .i64 0] 24 (0, 0))) := ⟨h0_⟩
   have n1_ : Aside0 (w27.heap[gb125]? = some (.cells #[.int .i64 t121, .int .i64 t122, .int .i64 t123, .int .i64 t124] 54 (0, 0))) := ⟨h1_⟩
   have n2_ : Aside0 (w27.heap[gb129]? = some (.cells #[.int .i64 0, .int .i64 0] 24 (0, 0))) := ⟨h2_⟩
   have n3_ : Aside0 (w.heap.size ≤ gb129) := ⟨h3_⟩
   have n4_ : Aside0 (w.heap.size ≤ gb129) := ⟨h4_⟩
   have n5_ : Aside0 (gb119 ≠ gb129) := ⟨h5_⟩
   have n6_ : Aside0 (gb129 ≠ gb119) := ⟨h6_⟩
   have n7_ : Aside0 (gb125 ≠ gb129) := ⟨h7_⟩
   have n8_ : Aside0 (gb129 ≠ gb125) := ⟨h8_⟩
   have n9_ : Aside0 (Below w.heap.size w w27) := ⟨h9_⟩
   clear BK119
   clear BK125
   clear HB
   clear h0_ h1_ h2_ h3_ h4_ h5_ h6_ h7_ h8_ h9_
   have BK119 := n0_
   have BK125 := n1_
   have BK129 := n2_
   have GW129 := n3_
   have GE129 := n4_
   have NB119_129 := n5_
   have NB129_119 := n6_
   have NB125_129 := n7_
   have NB129_125 := n8_
   have HB := n9_
   clear n0_ n1_ n2_ n3_ n4_ n5_ n6_ n7_ n8_ n9_
   have hHeld : w27.cell? ⟨gb125, 0, none⟩ = some (.int .i64 t121) ∧ w27.cell? ⟨gb125, 1, none⟩ = some (.int .i64 t122) ∧ w27.cell? ⟨gb125, 2, none⟩ = some (.int .i64 t123) ∧ w27.cell? ⟨gb125, 3, none⟩ = some (.int .i64 t124) := hS_
   refine norm_ (a' := ?_) ?_ ?_
   rotate_left
   ·simp only [putAll, Act.put, sI_, s0_, sS_]
    rfl
   refine one_ (i := 7) (N := none) (w_ 8 255) rfl rfl (one_of HT_.out (by kernel_rfl)) (by decide) (fun K hK => ?_)
   have hs28 : w27.cell? ⟨gb129, 0, none⟩ = some (.int .i64 0) := (blk_cell BK129.out 0).trans rfl
   have hfs28 := blk_frozen BK129.out 0
   have hns28_0 := NB119_129.out
   have hns28_1 := NB125_129.out
   have hms28_0 := NB129_119.out
   have hms28_1 := NB129_125.out
   have hs29 : w27.cell? ⟨gb129, 1, none⟩ = some (.int .i64 0) := (blk_cell BK129.out 1).trans rfl
   have hfs29 := blk_frozen BK129.out 1
   have hns29_0 := NB119_129.out
   have hns29_1 := NB125_129.out
   have hms29_0 := NB129_119.out
   have hms29_1 := NB129_125.out
   refine skip_ (w1 := ?_) (by rfl) rfl ?_ ?_
   rotate_left
   ·go_simp
    rfl
   refine hK.out _ _ ⟨((cell_far (p := ⟨gb129, _, none⟩) NB125_129.out _).trans (((cell_far (p := ⟨gb129, _, none⟩) NB125_129.out _).trans (hHeld.1)))), ((cell_far (p := ⟨gb129, _, none⟩) NB125_129.out _).trans (((cell_far (p := ⟨gb129, _, none⟩) NB125_129.out _).trans (hHeld.2.1)))), ((cell_far (p := ⟨gb129, _, none⟩) NB125_129.out _).trans (((cell_far (p := ⟨gb129, _, none⟩) NB125_129.out _).trans (hHeld.2.2.1)))), ((cell_far (p := ⟨gb129, _, none⟩) NB125_129.out _).trans (((cell_far (p := ⟨gb129, _, none⟩) NB125_129.out _).trans (hHeld.2.2.2))))⟩ (fun hHeld => ?_)
   clear hK K
   refine done_ (done_of HT_.out (by kernel_rfl)) ?_
   have H := Hmc17_.out
   clear Hmc17_
   by_cases c17 : t130 = true
   ·subst c17
    have H1 : (some (t127, t128, 0)) = some (r1, r2, r3) := by rw [if_pos rfl] at H; exact H
    clear H
    have H := H1
    clear H1
    simp only [Option.some.injEq, Prod.mk.injEq] at H
    obtain ⟨rfl, rfl, rfl⟩ := H
    have hnb30 := NB129_119.out
    have hnc30 := NB119_129.out
    have hnb31 := NB129_125.out
    have hnc31 := NB125_129.out
    have hcz32_0 := bc0_ BK129.out
    have hcz32_1 := bc1_ BK129.out
    have hfz32_0 := blk_frozen BK129.out 0
    have hfz32_1 := blk_frozen BK129.out 1
    try go_wp2_with (first | ((with_reducible refine gate_callee (f := 37) rfl ?_); refine gl_ (some 30) Try.func37 #[.agg #[.int .i64 t127, .int .i64 t128]] ?_; (with_reducible refine (rational_Valid.calls t127 t128 true _ A16.out).mono ?_); rintro e w33 ⟨rfl, hb⟩; refine ⟨_, rfl, ?_⟩; replace BK119 := mk_ (blk_below (g := gb119) (o := .cells #[.int .i64 0, .int .i64 0] 24 (0, 0)) (by (with_reducible repeat (first | refine blk_drewN ?_ _ | refine blk_drew ?_ | refine blk_alloc ?_ _)); refine blk_far ?_ NB119_129.out _; (with_reducible repeat (first | refine blk_drewN ?_ _ | refine blk_drew ?_ | refine blk_alloc ?_ _)); refine blk_far ?_ NB119_129.out _; (with_reducible repeat (first | refine blk_drewN ?_ _ | refine blk_drew ?_ | refine blk_alloc ?_ _)); exact BK119.out) hb); replace BK125 := mk_ (blk_below (g := gb125) (o := .cells #[.int .i64 t121, .int .i64 t122, .int .i64 t123, .int .i64 t124] 54 (0, 0)) (by (with_reducible repeat (first | refine blk_drewN ?_ _ | refine blk_drew ?_ | refine blk_alloc ?_ _)); refine blk_far ?_ NB125_129.out _; (with_reducible repeat (first | refine blk_drewN ?_ _ | refine blk_drew ?_ | refine blk_alloc ?_ _)); refine blk_far ?_ NB125_129.out _; (with_reducible repeat (first | refine blk_drewN ?_ _ | refine blk_drew ?_ | refine blk_alloc ?_ _)); exact BK125.out) hb); replace BK129 := mk_ (blk_below (g := gb129) (o := .cells #[.int .i64 t127, .int .i64 t128] 24 (0, 0)) (by (with_reducible repeat (first | refine blk_drewN ?_ _ | refine blk_drew ?_ | refine blk_alloc ?_ _)); refine blk_put (cs := #[.int .i64 t127, .int .i64 0]) ?_ 1 _ rfl; (with_reducible repeat (first | refine blk_drewN ?_ _ | refine blk_drew ?_ | refine blk_alloc ?_ _)); refine blk_put (cs := #[.int .i64 0, .int .i64 0]) ?_ 0 _ rfl; (with_reducible repeat (first | refine blk_drewN ?_ _ | refine blk_drew ?_ | refine blk_alloc ?_ _)); exact BK129.out) hb); replace HB := mk_ (below_step (bs3_ HB GE119 GE125 GE129) hb); (try clear hb); have hcz34_0 := bc0_ BK129.out; have hcz34_1 := bc1_ BK129.out; have hfz34_0 := blk_frozen BK129.out 0; have hfz34_1 := blk_frozen BK129.out 1; have hcz35_0 := bc0_ BK119.out; have hcz35_1 := bc1_ BK119.out; have hfz35_0 := blk_frozen BK119.out 0; have hfz35_1 := blk_frozen BK119.out 1))
    refine bodyPost_ret (results_ct rfl _ _ gb119 24 #[.int .i64 t127, .int .i64 t128] (0, 0) _ rfl (by (with_reducible repeat (first | refine blk_drewN ?_ _ | refine blk_drew ?_ | refine blk_alloc ?_ _)); refine blk_put (cs := #[.int .i64 t127, .int .i64 0]) ?_ 1 _ rfl; (with_reducible repeat (first | refine blk_drewN ?_ _ | refine blk_drew ?_ | refine blk_alloc ?_ _)); refine blk_put (cs := #[.int .i64 0, .int .i64 0]) ?_ 0 _ rfl; (with_reducible repeat (first | refine blk_drewN ?_ _ | refine blk_drew ?_ | refine blk_alloc ?_ _)); exact BK119.out) Try.underlying24 rfl (by kernel_rfl)) rfl ?_
    exact ⟨ew_, bs3_ HB GE119 GE125 GE129⟩
   replace c17 := Bool.eq_false_iff.mpr c17
   subst c17
   have H1 : (some (0, 0, 3)) = some (r1, r2, r3) := by rw [if_neg (show ¬ (false = true) by decide)] at H; exact H
   clear H
   have H := H1
   clear H1
   simp only [Option.some.injEq, Prod.mk.injEq] at H
   obtain ⟨rfl, rfl, rfl⟩ := H
   have hnb30 := NB129_119.out
   have hnc30 := NB119_129.out
   have hnb31 := NB129_125.out
   have hnc31 := NB125_129.out
   have hcz32_0 := bc0_ BK129.out
   have hcz32_1 := bc1_ BK129.out
   have hfz32_0 := blk_frozen BK129.out 0
   have hfz32_1 := blk_frozen BK129.out 1
   try go_wp2_with (first | ((with_reducible refine gate_callee (f := 37) rfl ?_); refine gl_ (some 30) Try.func37 #[.agg #[.int .i64 t127, .int .i64 t128]] ?_; (with_reducible refine (rational_Valid.calls t127 t128 false _ A16.out).mono ?_); rintro e w51 ⟨rfl, hb⟩; refine ⟨_, rfl, ?_⟩; replace BK119 := mk_ (blk_below (g := gb119) (o := .cells #[.int .i64 0, .int .i64 0] 24 (0, 0)) (by (with_reducible repeat (first | refine blk_drewN ?_ _ | refine blk_drew ?_ | refine blk_alloc ?_ _)); refine blk_far ?_ NB119_129.out _; (with_reducible repeat (first | refine blk_drewN ?_ _ | refine blk_drew ?_ | refine blk_alloc ?_ _)); refine blk_far ?_ NB119_129.out _; (with_reducible repeat (first | refine blk_drewN ?_ _ | refine blk_drew ?_ | refine blk_alloc ?_ _)); exact BK119.out) hb); replace BK125 := mk_ (blk_below (g := gb125) (o := .cells #[.int .i64 t121, .int .i64 t122, .int .i64 t123, .int .i64 t124] 54 (0, 0)) (by (with_reducible repeat (first | refine blk_drewN ?_ _ | refine blk_drew ?_ | refine blk_alloc ?_ _)); refine blk_far ?_ NB125_129.out _; (with_reducible repeat (first | refine blk_drewN ?_ _ | refine blk_drew ?_ | refine blk_alloc ?_ _)); refine blk_far ?_ NB125_129.out _; (with_reducible repeat (first | refine blk_drewN ?_ _ | refine blk_drew ?_ | refine blk_alloc ?_ _)); exact BK125.out) hb); replace BK129 := mk_ (blk_below (g := gb129) (o := .cells #[.int .i64 t127, .int .i64 t128] 24 (0, 0)) (by (with_reducible repeat (first | refine blk_drewN ?_ _ | refine blk_drew ?_ | refine blk_alloc ?_ _)); refine blk_put (cs := #[.int .i64 t127, .int .i64 0]) ?_ 1 _ rfl; (with_reducible repeat (first | refine blk_drewN ?_ _ | refine blk_drew ?_ | refine blk_alloc ?_ _)); refine blk_put (cs := #[.int .i64 0, .int .i64 0]) ?_ 0 _ rfl; (with_reducible repeat (first | refine blk_drewN ?_ _ | refine blk_drew ?_ | refine blk_alloc ?_ _)); exact BK129.out) hb); replace HB := mk_ (below_step (bs3_ HB GE119 GE125 GE129) hb); (try clear hb); have hcz52_0 := bc0_ BK119.out; have hcz52_1 := bc1_ BK119.out; have hfz52_0 := blk_frozen BK119.out 0; have hfz52_1 := blk_frozen BK119.out 1))
   refine bodyPost_ret (results_ct rfl _ _ gb119 24 #[.int .i64 0, .int .i64 0] (0, 0) _ rfl (by (with_reducible repeat (first | refine blk_drewN ?_ _ | refine blk_drew ?_ | refine blk_alloc ?_ _)); refine blk_put (cs := #[.int .i64 0, .int .i64 0]) ?_ 1 _ rfl; (with_reducible repeat (first | refine blk_drewN ?_ _ | refine blk_drew ?_ | refine blk_alloc ?_ _)); refine blk_put (cs := #[.int .i64 0, .int .i64 0]) ?_ 0 _ rfl; (with_reducible repeat (first | refine blk_drewN ?_ _ | refine blk_drew ?_ | refine blk_alloc ?_ _)); exact BK119.out) Try.underlying24 rfl (by kernel_rfl)) rfl ?_
   exact ⟨ew_, bs3_ HB GE119 GE125 GE129⟩
end
section
open Go.Proofs.YtmhimmodigeeiaaH
structure ST where
 x : Int
 u : Int
 f : LN
 g : LN
def encST (s : ST) : Array Value := #[.agg #[.int .i64 s.x, .int .i64 s.u, .int .i64 s.f.n, .int .i64 s.f.s, .int .i64 s.f.d, .int .i64 s.f.fr, .int .i64 s.g.n, .int .i64 s.g.s, .int .i64 s.g.d, .int .i64 s.g.fr]]
def nxt (f : List S51) (i : Nat) (a : Int) : Int := if i + 1 < f.length then mn a (rd_T51 f ((i + 1 : Nat) : Int)).f0 else a
def adv (f : List S51) (i : Nat) (x : Int) : Nat := if i + 1 < f.length ∧ (rd_T51 f ((i + 1 : Nat) : Int)).f0 = x then i + 1 else i
def stp (f g : List S51) : Nat → Nat × Nat × Int
 | 0 => (0, 0, 0)
 | j + 1 => (adv f (stp f g j).1 (nxt g (stp f g j).2.1 (nxt f (stp f g j).1 100001)), adv g (stp f g j).2.1 (nxt g (stp f g j).2.1 (nxt f (stp f g j).1 100001)), nxt g (stp f g j).2.1 (nxt f (stp f g j).1 100001))
def stE (f g : List S51) (j : Nat) : ST := ⟨(stp f g j).2.2, (stp f g (j + 1)).2.2, lineL (rd_T51 f ((stp f g j).1 : Int)), lineL (rd_T51 g ((stp f g j).2.1 : Int))⟩
structure StOk (f g : List S51) (M : Nat) : Prop where
 fl : f.length ≤ 1000000
 gl : g.length ≤ 1000000
 lt : ∀ j, j ≤ M → (stp f g j).1 < f.length ∧ (stp f g j).2.1 < g.length ∧ 0 ≤ (stp f g j).2.2
 up : ∀ j, j < M → (stp f g j).2.2 ≤ 100000 ∧ (stp f g j).2.2 < (stp f g (j + 1)).2.2
 last : 100000 < (stp f g M).2.2
def stL (f g : List S51) (M : Nat) : List ST := (List.range M).map (stE f g)
theorem stL_at {f g : List S51} {M k : Nat} (h : k < M) : (stL f g M)[k]? = some (stE f g k) := by
 unfold stL
 rw [List.getElem?_map, List.getElem?_range h]
 rfl
theorem stL_len (f g : List S51) (M : Nat) : (stL f g M).length = M := by unfold stL; rw [List.length_map, List.length_range]
def Keep2 (n0 b c : Nat) (W W' : World) : Prop := Below n0 W W' ∧ W'.heap[b]? = W.heap[b]? ∧ W'.heap[c]? = W.heap[c]?
theorem keep2_t {n0 b c : Nat} {A B C : World} (h : Keep2 n0 b c A B) (k : Keep2 n0 b c B C) : Keep2 n0 b c A C := ⟨h.1.trans k.1, k.2.1.trans h.2.1, k.2.2.trans h.2.2⟩
theorem keep2_r (n0 b c : Nat) (W : World) : Keep2 n0 b c W W := ⟨Below.refl _ _, rfl, rfl⟩
theorem keep2_b {n0 b c : Nat} {w : World} (hn : n0 ≤ w.heap.size) (hb : b < w.heap.size) (hc : c < w.heap.size) (W : World) (l : Nat) (o o' : Obj) (hl : w.heap.size ≤ l) (h : W.heap[l]? = some o) (h1 : o.isCells = false) (h2 : o.isWalk = false) : Keep2 n0 b c W (W.putObj l o') :=
 ⟨belowK_b hn W l o o' hl h h1 h2, World.putObj_heap_other (by omega), World.putObj_heap_other (by omega)⟩
theorem keep2_below {n0 b c : Nat} {W W' : World} (hn : n0 ≤ W.heap.size) (hb : b < W.heap.size) (hc : c < W.heap.size) (h : Below W.heap.size W W') : Keep2 n0 b c W W' := ⟨h.mono hn, h.block b hb, h.block c hc⟩
theorem take_nextE {α : Type} {E : List α} {k : Nat} {x : α} (h : E[k]? = some x) : E.take k ++ [x] = E.take (k + 1) := by rw [List.take_add_one, h]; rfl
theorem two_ways {e : Ending} {A B : Prop} (h : (e = .returned (.bool true) ∧ A) ∨ (e = .returned (.bool false) ∧ B)) : ∃ b : Bool, e = .returned (.bool b) ∧ ((b = true ∧ A) ∨ (b = false ∧ B)) := by
 rcases h with ⟨h1, h2⟩ | ⟨h1, h2⟩
 ·exact ⟨true, h1, .inl ⟨rfl, h2⟩⟩
 ·exact ⟨false, h1, .inr ⟨rfl, h2⟩⟩
set_option maxHeartbeats 4000000 in
theorem stretches_calls (A0 A1 : Option Addr) (n0 n1 c0 c1 : Nat) (w : World) :
  Calls Try.prog 39 #[.slice A0 n0 c0, .slice A1 n1 c1] w fun e w' => ∃ g1 g2 : Nat, e = .returned (.func (.func 59) #[] #[.pointer (some ⟨g1, 0, none⟩), .pointer (some ⟨g2, 0, none⟩)]) ∧
   w'.heap[g1]? = some (.cells #[.slice A0 n0 c0] 22 (0, 0)) ∧ w'.heap[g2]? = some (.cells #[.slice A1 n1 c1] 22 (0, 0)) ∧ w.heap.size ≤ g1 ∧ w.heap.size ≤ g2 ∧ Below w.heap.size w w' := by
 have HB := mk_ (Below.refl w.heap.size w)
 go_enter Try.func39, Try.ntmps39
 go_wp2_with (first | ((with_reducible refine gate_dst (N := 2) rfl ?_); refine box_event ?hg (N := 2) ?hd (cs := #[.slice A0 n0 c0]) (t := 22) ?hr ?_; (case hd => rfl); (case hg => rfl); (case hr => first | (go_simp; done) | (go_simp; rfl)); intro g1 hg_A w1 hbox_ hb_; have n0_ := mk_ (below_step HB.out hb_); have BA := mk_ hbox_; have GA := mk_ (show w.heap.size ≤ g1 by rw [hg_A]; exact below_size HB.out); have EA := mk_ hg_A; have hcA0 : w1.cell? ⟨g1, 0, none⟩ = some (.slice A0 n0 c0) := (blk_cell hbox_ 0).trans rfl; have hfA0 := blk_frozen hbox_ 0; clear HB hg_A hbox_ hb_; have HB := n0_; clear n0_) | ((with_reducible refine gate_dst (N := 3) rfl ?_); refine box_event ?hg (N := 3) ?hd (cs := #[.slice A1 n1 c1]) (t := 22) ?hr ?_; (case hd => rfl); (case hg => rfl); (case hr => first | (go_simp; done) | (go_simp; rfl)); intro g2 hg_B w2 hbox_ hb_; have n0_ := mk_ (below_step HB.out hb_); have BB := mk_ hbox_; have GB := mk_ (show w.heap.size ≤ g2 by rw [hg_B]; exact below_size HB.out); have EB := mk_ hg_B; have hcB0 : w2.cell? ⟨g2, 0, none⟩ = some (.slice A1 n1 c1) := (blk_cell hbox_ 0).trans rfl; have hfB0 := blk_frozen hbox_ 0; have BA := mk_ (blk_below BA.out hb_); clear HB hg_B hbox_ hb_; have HB := n0_; clear n0_))
 go_ret
 exact ⟨g1, g2, rfl, BA.out, BB.out, GA.out, GB.out, HB.out⟩
attribute [local go_sem] Oper.semAt_some
attribute [local go_sem] max2_int min2_int max_two min_two
set_option maxHeartbeats 16000000 in
theorem str1_in (n : Nat) (hn : 1 ≤ n) (lr B1 B2 n0 : Nat) (A0 A1 : Option Addr) (c0 c1 : Nat) (f g : List S51) (M : Nat) (hM : StOk f g M) (J Jx : List ST → World → Prop) (hJ : ∀ pre W W', J pre W → Below W.heap.size W W' → J pre W')
  (hY : ∀ pre x W, J pre W → pre.length < M + 1 → (∃ j, j < M ∧ pre = (stL f g M).take j ∧ x = stE f g j) → YieldAt Fence.wide (n - 1) Try.prog lr (encST x) W fun e W' =>
   (e = .returned (.bool true) ∧ J (pre ++ [x]) W' ∧ Keep2 n0 B1 B2 W W') ∨ (e = .returned (.bool false) ∧ Jx (pre ++ [x]) W'))
  (W : World) (hB1 : W.heap[B1]? = some (.cells #[.slice A0 f.length c0] 22 (0, 0))) (hB2 : W.heap[B2]? = some (.cells #[.slice A1 g.length c1] 22 (0, 0)))
  (hC0 : ∀ W', Below n0 W W' → Kd.C k51 W' A0 f.length f) (hC1 : ∀ W', Below n0 W W' → Kd.C k51 W' A1 g.length g) (hn0 : n0 ≤ W.heap.size) (h0 : J [] W) :
  CallsIn Fence.wide n Try.prog 59 #[.func (.yield lr) #[] #[], .pointer (some ⟨B1, 0, none⟩), .pointer (some ⟨B2, 0, none⟩)] W fun e W' => (∃ v, e = .returned v) ∧
   ((∃ xs : List ST, xs = stL f g M ∧ J xs W') ∨ (∃ pre, (∃ k, pre = (stL f g M).take k) ∧ Jx pre W')) := by
 refine callsIn_of_wp Try.func59 rfl trivial ?_ rfl
 simp only [Try.ntmps59, List.size_toArray, List.length_cons, List.length_nil, Nat.reduceAdd, Nat.reduceSub, Array.replicate_succ, Array.replicate_zero, List.push_toArray, List.append_toArray, List.nil_append, List.cons_append]
 have hu51 := Try.underlying51
 have hu54 := Try.underlying54
 have hu64 := Try.underlying64
 have HM := mk_ hM
 have HC0 := mk_ hC0
 have HC1 := mk_ hC1
 have HJD := mk_ hJ
 have HY := mk_ hY
 have HB1 := mk_ hB1
 have HB2 := mk_ hB2
 have HN0 := mk_ hn0
 have H0 := mk_ h0
 clear hM hC0 hC1 hJ hY hB1 hB2 h0 hn0
 gi_wp2
 gi_loopw [4, 5, 6] (fun i k x wr => ∃ (j : Nat), j ≤ M ∧ i = .int .i64 ((stp f g j).1 : Int) ∧ k = .int .i64 ((stp f g j).2.1 : Int) ∧ x = .int .i64 (stp f g j).2.2 ∧ Aside0 (J ((stL f g M).take j) wr) ∧ Aside0 (Keep2 n0 B1 B2 W wr))
  (fun _ _ x _ => (100001 - intOf x).toNat)
 case atStart => exact ⟨0, Nat.zero_le _, rfl, rfl, rfl, H0, ⟨keep2_r _ _ _ _⟩⟩
 case round =>
  clear H0
  obtain ⟨j, hj, rfl, rfl, rfl, HJ, HK⟩ := hrel
  by_cases hlt : j < M
  case neg =>
   have hjm : j = M := by omega
   have hall : (stL f g M).take j = stL f g M := List.take_of_length_le (by rw [stL_len]; omega)
   rw [hall] at HJ
   have d1 : decide ((stp f g j).2.2 ≤ 100000) = false := decide_eq_false (by have := HM.out.last; rw [hjm]; omega)
   clear hlt hjm hall
   gi_wp2
   go_end0
   exact ⟨⟨_, rfl⟩, .inl ⟨_, rfl, HJ.out⟩⟩
  have hup := HM.out.up j hlt
  have hlj := HM.out.lt j hj
  obtain ⟨iN, hiN⟩ : ∃ iN, iN = (stp f g j).1 := ⟨_, rfl⟩
  obtain ⟨kN, hkN⟩ : ∃ kN, kN = (stp f g j).2.1 := ⟨_, rfl⟩
  obtain ⟨x, hx⟩ : ∃ x, x = (stp f g j).2.2 := ⟨_, rfl⟩
  rw [← hx, ← hiN, ← hkN] at hlj
  rw [← hx] at hup
  rw [← hiN, ← hkN, ← hx]
  have d1 : decide (x ≤ 100000) = true := decide_eq_true hup.1
  obtain ⟨i, hi⟩ : ∃ i : Int, i = (iN : Int) := ⟨_, rfl⟩
  obtain ⟨k, hk⟩ : ∃ k : Int, k = (kN : Int) := ⟨_, rfl⟩
  rw [← hi, ← hk]
  have HI := mk_ (show (0 ≤ i ∧ i < f.length ∧ i = (iN : Int)) ∧ 0 ≤ k ∧ k < g.length ∧ k = (kN : Int) by omega)
  have hz1 : i + 1 ≤ 9223372036854775807 := by have := HI.out; have := HM.out.fl; omega
  have hz2 : -9223372036854775808 ≤ i + 1 := by have := HI.out; omega
  have hz3 : k + 1 ≤ 9223372036854775807 := by have := HI.out; have := HM.out.gl; omega
  have hz4 : -9223372036854775808 ≤ k + 1 := by have := HI.out; omega
  have hc1 : wr.cell? ⟨B1, 0, none⟩ = some (.slice A0 f.length c0) := (blk_cell (HK.out.2.1.trans HB1.out) 0).trans rfl
  have hc2 : wr.cell? ⟨B2, 0, none⟩ = some (.slice A1 g.length c1) := (blk_cell (HK.out.2.2.trans HB2.out) 0).trans rfl
  obtain ⟨a1, ha1⟩ : ∃ a1, a1 = nxt f iN 100001 := ⟨_, rfl⟩
  obtain ⟨a2, ha2⟩ : ∃ a2, a2 = nxt g kN a1 := ⟨_, rfl⟩
  have HX := mk_ (show (iN = (stp f g j).1 ∧ kN = (stp f g j).2.1) ∧ (x = (stp f g j).2.2 ∧ j < M) ∧ x ≤ 100000 ∧ 0 ≤ x from ⟨⟨hiN, hkN⟩, ⟨hx, hlt⟩, hup.1, hlj.2.2⟩)
  have HA1 := mk_ ha1
  have HA2 := mk_ ha2
  have HA3 := mk_ (show (stp f g (j + 1)).2.2 = a2 by rw [ha2, ha1, hiN, hkN]; rfl)
  have HUP := mk_ hup.2
  clear hi hk hiN hkN hx hup hlj hlt hj ha1 ha2
  gi_upto_if 14 with (fail)
  gi_cut [7] from 8 (fun v7 wc => v7 = .int .i64 a1 ∧ wr = wc)
  case first =>
   by_cases h1 : iN + 1 < f.length
   ·have e1 : decide (i + 1 < (f.length : Int)) = true := decide_eq_true (by have := HI.out; omega)
    rw [e1]
    have e2 : (i + 1 < f.length) = True := eq_true (by have := HI.out; omega)
    have e3 : (0 ≤ i + 1) = True := eq_true (by have := HI.out; omega)
    obtain ⟨ad, ea, hx0, _⟩ := at_T51 (HC0.out wr HK.out.1) (i + 1) (by have := HI.out; omega) (by have := HI.out; omega)
    subst ea
    obtain ⟨y, hy⟩ : ∃ y, y = (rd_T51 f (i + 1)).f0 := ⟨_, rfl⟩
    rw [← hy] at hx0
    have HAA := mk_ (show mn 100001 y = a1 by rw [HA1.out, hy]; unfold nxt; rw [if_pos h1, show i + 1 = ((iN + 1 : Nat) : Int) from by have := HI.out; omega])
    clear h1 hy
    by_cases hq : y < 100001
    ·have q1 : (y < 100001) = True := eq_true hq
     have HQ := mk_ (show y = a1 by rw [← HAA.out]; unfold mn; rw [if_pos hq])
     clear hq
     gi_wp2
     gi_meet
     case rel => exact ⟨by rw [HQ.out], rfl⟩
    ·have q1 : (y < 100001) = False := eq_false hq
     have HQ := mk_ (show 100001 = a1 by rw [← HAA.out]; unfold mn; rw [if_neg hq])
     clear hq
     gi_wp2
     gi_meet
     case rel => exact ⟨by rw [← HQ.out], rfl⟩
   ·have e1 : decide (i + 1 < (f.length : Int)) = false := decide_eq_false (by have := HI.out; omega)
    rw [e1]
    have HQ := mk_ (show 100001 = a1 by rw [HA1.out]; unfold nxt; rw [if_neg h1])
    clear h1
    gi_wp2
    gi_meet
    case rel => exact ⟨by rw [← HQ.out], rfl⟩
  case rest =>
   obtain ⟨rfl, rfl⟩ := hcut
   gi_upto_if 27 with (fail)
   gi_cut [7] from 8 (fun v7 wc => v7 = .int .i64 a2 ∧ wr = wc)
   case first =>
    by_cases h1 : kN + 1 < g.length
    ·have e1 : decide (k + 1 < (g.length : Int)) = true := decide_eq_true (by have := HI.out; omega)
     rw [e1]
     have e2 : (k + 1 < g.length) = True := eq_true (by have := HI.out; omega)
     have e3 : (0 ≤ k + 1) = True := eq_true (by have := HI.out; omega)
     obtain ⟨ad, ea, hx0, _⟩ := at_T51 (HC1.out wr HK.out.1) (k + 1) (by have := HI.out; omega) (by have := HI.out; omega)
     subst ea
     obtain ⟨y, hy⟩ : ∃ y, y = (rd_T51 g (k + 1)).f0 := ⟨_, rfl⟩
     rw [← hy] at hx0
     have HAA := mk_ (show mn a1 y = a2 by rw [HA2.out, hy]; unfold nxt; rw [if_pos h1, show k + 1 = ((kN + 1 : Nat) : Int) from by have := HI.out; omega])
     clear h1 hy
     by_cases hq : y < a1
     ·have q1 : (y < a1) = True := eq_true hq
      have HQ := mk_ (show y = a2 by rw [← HAA.out]; unfold mn; rw [if_pos hq])
      clear hq
      gi_wp2
      gi_meet
      case rel => exact ⟨by rw [HQ.out], rfl⟩
     ·have q1 : (y < a1) = False := eq_false hq
      have HQ := mk_ (show a1 = a2 by rw [← HAA.out]; unfold mn; rw [if_neg hq])
      clear hq
      gi_wp2
      gi_meet
      case rel => exact ⟨by rw [← HQ.out], rfl⟩
    ·have e1 : decide (k + 1 < (g.length : Int)) = false := decide_eq_false (by have := HI.out; omega)
     rw [e1]
     have HQ := mk_ (show a1 = a2 by rw [HA2.out]; unfold nxt; rw [if_neg h1])
     clear h1
     gi_wp2
     gi_meet
     case rel => exact ⟨by rw [← HQ.out], rfl⟩
   case rest =>
    obtain ⟨rfl, rfl⟩ := hcut
    have HPL := mk_ (show ((stL f g M).take j).length < M + 1 by rw [List.length_take]; have := HX.out; omega)
    have HEN := mk_ (take_nextE (stL_at (f := f) (g := g) HX.out.2.1.2))
    have hd1 : wr.drew.cell? ⟨B1, 0, none⟩ = some (.slice A0 f.length c0) := (blk_cell (show wr.drew.heap[B1]? = _ from HK.out.2.1.trans HB1.out) 0).trans rfl
    have hd2 : wr.drew.cell? ⟨B2, 0, none⟩ = some (.slice A1 g.length c1) := (blk_cell (show wr.drew.heap[B2]? = _ from HK.out.2.2.trans HB2.out) 0).trans rfl
    obtain ⟨adp, ep, hx0, hx1, hx2, hx3, hx4⟩ := at_T51 (HC0.out wr.drew (below_drew HK.out.1)) i HI.out.1.1 HI.out.1.2.1
    obtain ⟨adq, eq_, hy0, hy1, hy2, hy3, hy4⟩ := at_T51 (HC1.out wr.drew (below_drew HK.out.1)) k HI.out.2.1 HI.out.2.2.1
    rw [ep] at hd1
    rw [eq_] at hd2
    clear ep eq_
    have i2 : (0 ≤ i) = True := eq_true HI.out.1.1
    have i3 : (i < f.length) = True := eq_true HI.out.1.2.1
    have k2 : (0 ≤ k) = True := eq_true HI.out.2.1
    have k3 : (k < g.length) = True := eq_true HI.out.2.2.1
    obtain ⟨p, hp⟩ : ∃ p, p = rd_T51 f i := ⟨_, rfl⟩
    obtain ⟨q, hq⟩ : ∃ q, q = rd_T51 g k := ⟨_, rfl⟩
    rw [← hp] at hx0 hx1 hx2 hx3 hx4
    rw [← hq] at hy0 hy1 hy2 hy3 hy4
    have HEE := mk_ (show stE f g j = ⟨x, a2, lineL p, lineL q⟩ by unfold stE; rw [← HX.out.1.1, ← HX.out.1.2, ← HX.out.2.1.1, HA3.out, hp, hq, HI.out.1.2.2, HI.out.2.2.2])
    have HW := mk_ (below_drew (Below.refl wr.heap.size wr))
    clear hp hq
    gi_upto_region 8 with (fail)
    gi_cut [51] from 8 (fun v51 wc => ∃ b : Bool, v51 = .bool (!b) ∧ Aside0 ((b = true ∧ J ((stL f g M).take (j + 1)) wc ∧ Keep2 n0 B1 B2 wr wc) ∨ (b = false ∧ Jx ((stL f g M).take (j + 1)) wc)))
    case first =>
     gi_region_with (first | (refine ⟨trivial, ?_⟩; gi_at_call 46; (with_reducible refine (callsIn_wide.2 (lineL_calls p _)).mono ?_); rintro e w1 ⟨rfl, hb_⟩; replace hd1 := (hb_.cell (World.block_lt_of_cell? _ _ hd1)).trans hd1; replace hd2 := (hb_.cell (World.block_lt_of_cell? _ _ hd2)).trans hd2; replace hx0 := (hb_.cell (World.block_lt_of_cell? _ _ hx0)).trans hx0; replace hx1 := (hb_.cell (World.block_lt_of_cell? _ _ hx1)).trans hx1; replace hx2 := (hb_.cell (World.block_lt_of_cell? _ _ hx2)).trans hx2; replace hx3 := (hb_.cell (World.block_lt_of_cell? _ _ hx3)).trans hx3; replace hx4 := (hb_.cell (World.block_lt_of_cell? _ _ hx4)).trans hx4; replace hy0 := (hb_.cell (World.block_lt_of_cell? _ _ hy0)).trans hy0; replace hy1 := (hb_.cell (World.block_lt_of_cell? _ _ hy1)).trans hy1; replace hy2 := (hb_.cell (World.block_lt_of_cell? _ _ hy2)).trans hy2; replace hy3 := (hb_.cell (World.block_lt_of_cell? _ _ hy3)).trans hy3; replace hy4 := (hb_.cell (World.block_lt_of_cell? _ _ hy4)).trans hy4; have n0_ := mk_ (below_step HW.out hb_); clear HW hb_; have HW := n0_; clear n0_; obtain ⟨fn, tmps, assign, body, hyy, hR_⟩ := HY.out _ (stE f g j) _ (HJD.out _ _ _ HJ.out HW.out) HPL.out ⟨j, HX.out.2.1.2, rfl, rfl⟩; rw [HEE.out] at hyy; simp only [encST] at hyy; have HR := mk_ hR_; clear hR_) | (refine ⟨trivial, ?_⟩; gi_at_call 46; (with_reducible refine (callsIn_wide.2 (lineL_calls q _)).mono ?_); rintro e w1 ⟨rfl, hb_⟩; replace hd1 := (hb_.cell (World.block_lt_of_cell? _ _ hd1)).trans hd1; replace hd2 := (hb_.cell (World.block_lt_of_cell? _ _ hd2)).trans hd2; replace hx0 := (hb_.cell (World.block_lt_of_cell? _ _ hx0)).trans hx0; replace hx1 := (hb_.cell (World.block_lt_of_cell? _ _ hx1)).trans hx1; replace hx2 := (hb_.cell (World.block_lt_of_cell? _ _ hx2)).trans hx2; replace hx3 := (hb_.cell (World.block_lt_of_cell? _ _ hx3)).trans hx3; replace hx4 := (hb_.cell (World.block_lt_of_cell? _ _ hx4)).trans hx4; replace hy0 := (hb_.cell (World.block_lt_of_cell? _ _ hy0)).trans hy0; replace hy1 := (hb_.cell (World.block_lt_of_cell? _ _ hy1)).trans hy1; replace hy2 := (hb_.cell (World.block_lt_of_cell? _ _ hy2)).trans hy2; replace hy3 := (hb_.cell (World.block_lt_of_cell? _ _ hy3)).trans hy3; replace hy4 := (hb_.cell (World.block_lt_of_cell? _ _ hy4)).trans hy4; have n0_ := mk_ (below_step HW.out hb_); clear HW hb_; have HW := n0_; clear n0_; obtain ⟨fn, tmps, assign, body, hyy, hR_⟩ := HY.out _ (stE f g j) _ (HJD.out _ _ _ HJ.out HW.out) HPL.out ⟨j, HX.out.2.1.2, rfl, rfl⟩; rw [HEE.out] at hyy; simp only [encST] at hyy; have HR := mk_ hR_; clear hR_) | (refine HR.out.mono ?_; rintro e W3 h3_; obtain ⟨b, rfl, h4_⟩ := two_ways h3_; rw [HEN.out] at h4_; have H4 := mk_ h4_; clear h3_ h4_))
     all_goals
      gi_wp2
      gi_meet
      case rel =>
       refine ⟨b, rfl, ⟨?_⟩⟩
       rcases H4.out with ⟨hb, h1, h2⟩ | ⟨hb, h1⟩
       ·exact .inl ⟨hb, h1, keep2_t (keep2_below (Nat.le_trans HN0.out HK.out.1.size) (blk_lt (HK.out.2.1.trans HB1.out)) (blk_lt (HK.out.2.2.trans HB2.out)) HW.out) h2⟩
       ·exact .inr ⟨hb, h1⟩
    case rest =>
     obtain ⟨b, rfl, H4⟩ := hcut
     rcases H4.out with ⟨rfl, hJ3, hk3⟩ | ⟨rfl, hJx3⟩
     case inr =>
      have HJ3 := mk_ hJx3
      clear hJx3 H4
      gi_wp2
      refine bodyPost_ret (results_none rfl _ _ _) rfl ?_
      exact ⟨⟨_, rfl⟩, .inr ⟨_, ⟨_, rfl⟩, HJ3.out⟩⟩
     have HJ3 := mk_ hJ3
     have HKC := mk_ (keep2_t HK.out hk3)
     clear hJ3 hk3 H4 hc1 hc2 hd1 hd2 hx0 hx1 hx2 hx3 hx4 hy0 hy1 hy2 hy3 hy4
     have hc1 : wc.cell? ⟨B1, 0, none⟩ = some (.slice A0 f.length c0) := (blk_cell (HKC.out.2.1.trans HB1.out) 0).trans rfl
     have hc2 : wc.cell? ⟨B2, 0, none⟩ = some (.slice A1 g.length c1) := (blk_cell (HKC.out.2.2.trans HB2.out) 0).trans rfl
     gi_upto_region 10 with (fail)
     gi_cut [67] from 8 (fun v67 wd => v67 = .bool (decide (iN + 1 < f.length ∧ (rd_T51 f ((iN + 1 : Nat) : Int)).f0 = a2)) ∧ wc = wd)
     case first =>
      by_cases h1 : iN + 1 < f.length
      ·have e1 : decide (i + 1 < (f.length : Int)) = true := decide_eq_true (by have := HI.out; omega)
       have e2 : (i + 1 < f.length) = True := eq_true (by have := HI.out; omega)
       have e3 : (0 ≤ i + 1) = True := eq_true (by have := HI.out; omega)
       obtain ⟨ad, ea, hx0, _⟩ := at_T51 (HC0.out wc HKC.out.1) (i + 1) (by have := HI.out; omega) (by have := HI.out; omega)
       obtain ⟨y, hy⟩ : ∃ y, y = (rd_T51 f (i + 1)).f0 := ⟨_, rfl⟩
       rw [← hy] at hx0
       have HYY := mk_ (show decide (iN + 1 < f.length ∧ (rd_T51 f ((iN + 1 : Nat) : Int)).f0 = a2) = (y == a2) by
        rw [hy, show i + 1 = ((iN + 1 : Nat) : Int) from by have := HI.out; omega]
        by_cases hh : (rd_T51 f ((iN + 1 : Nat) : Int)).f0 = a2
        ·rw [decide_eq_true ⟨h1, hh⟩]; exact (beq_iff_eq.2 hh).symm
        ·rw [decide_eq_false (fun h => hh h.2)]; exact (beq_eq_false_iff_ne.2 hh).symm)
       clear h1 hy
       subst ea
       gi_wp2
       gi_meet
       case rel => exact ⟨by rw [HYY.out], rfl⟩
      ·have e1 : decide (i + 1 < (f.length : Int)) = false := decide_eq_false (by have := HI.out; omega)
       have HYY := mk_ (show decide (iN + 1 < f.length ∧ (rd_T51 f ((iN + 1 : Nat) : Int)).f0 = a2) = false from decide_eq_false (fun h => h1 h.1))
       clear h1
       gi_wp2
       gi_meet
       case rel => exact ⟨by rw [HYY.out], rfl⟩
     case rest =>
      obtain ⟨rfl, rfl⟩ := hcut
      gi_upto_if 67 with (fail)
      gi_cut [4] from 8 (fun v4 wd => v4 = .int .i64 ((adv f iN a2 : Nat) : Int) ∧ wc = wd)
      case first =>
       by_cases h1 : iN + 1 < f.length ∧ (rd_T51 f ((iN + 1 : Nat) : Int)).f0 = a2
       ·rw [decide_eq_true h1]
        have HQ := mk_ (show ((adv f iN a2 : Nat) : Int) = i + 1 by unfold adv; rw [if_pos h1]; have := HI.out; omega)
        clear h1
        gi_wp2
        gi_meet
        case rel => exact ⟨by rw [HQ.out], rfl⟩
       ·rw [decide_eq_false h1]
        have HQ := mk_ (show ((adv f iN a2 : Nat) : Int) = i by unfold adv; rw [if_neg h1]; have := HI.out; omega)
        clear h1
        gi_wp2
        gi_meet
        case rel => exact ⟨by rw [HQ.out], rfl⟩
      case rest =>
       obtain ⟨rfl, rfl⟩ := hcut
       gi_upto_region 12 with (fail)
       gi_cut [84] from 8 (fun v84 wd => v84 = .bool (decide (kN + 1 < g.length ∧ (rd_T51 g ((kN + 1 : Nat) : Int)).f0 = a2)) ∧ wc = wd)
       case first =>
        by_cases h1 : kN + 1 < g.length
        ·have e1 : decide (k + 1 < (g.length : Int)) = true := decide_eq_true (by have := HI.out; omega)
         have e2 : (k + 1 < g.length) = True := eq_true (by have := HI.out; omega)
         have e3 : (0 ≤ k + 1) = True := eq_true (by have := HI.out; omega)
         obtain ⟨ad, ea, hx0, _⟩ := at_T51 (HC1.out wc HKC.out.1) (k + 1) (by have := HI.out; omega) (by have := HI.out; omega)
         obtain ⟨y, hy⟩ : ∃ y, y = (rd_T51 g (k + 1)).f0 := ⟨_, rfl⟩
         rw [← hy] at hx0
         have HYY := mk_ (show decide (kN + 1 < g.length ∧ (rd_T51 g ((kN + 1 : Nat) : Int)).f0 = a2) = (y == a2) by
          rw [hy, show k + 1 = ((kN + 1 : Nat) : Int) from by have := HI.out; omega]
          by_cases hh : (rd_T51 g ((kN + 1 : Nat) : Int)).f0 = a2
          ·rw [decide_eq_true ⟨h1, hh⟩]; exact (beq_iff_eq.2 hh).symm
          ·rw [decide_eq_false (fun h => hh h.2)]; exact (beq_eq_false_iff_ne.2 hh).symm)
         clear h1 hy
         subst ea
         gi_wp2
         gi_meet
         case rel => exact ⟨by rw [HYY.out], rfl⟩
        ·have e1 : decide (k + 1 < (g.length : Int)) = false := decide_eq_false (by have := HI.out; omega)
         have HYY := mk_ (show decide (kN + 1 < g.length ∧ (rd_T51 g ((kN + 1 : Nat) : Int)).f0 = a2) = false from decide_eq_false (fun h => h1 h.1))
         clear h1
         gi_wp2
         gi_meet
         case rel => exact ⟨by rw [HYY.out], rfl⟩
       case rest =>
        obtain ⟨rfl, rfl⟩ := hcut
        gi_upto_if 84 with (fail)
        have HJ1 := mk_ (show ((adv f iN a2 : Nat) : Int) = ((stp f g (j + 1)).1 : Int) by rw [← HA3.out, HX.out.1.1]; rfl)
        have HK1 := mk_ (show adv g kN a2 = (stp f g (j + 1)).2.1 by rw [← HA3.out, HX.out.1.2]; rfl)
        have HMS := mk_ (show x ≤ 100000 ∧ x < a2 by have h1 := HUP.out; have h2 := HX.out.2.2.1; rw [HA3.out] at h1; exact ⟨h2, h1⟩)
        by_cases h1 : kN + 1 < g.length ∧ (rd_T51 g ((kN + 1 : Nat) : Int)).f0 = a2
        ·rw [decide_eq_true h1]
         have HQ := mk_ (show ((stp f g (j + 1)).2.1 : Int) = k + 1 by rw [← HK1.out]; unfold adv; rw [if_pos h1]; have := HI.out; omega)
         clear h1
         gi_wp2
         go_roundw
         case rel => exact ⟨j + 1, by have := HX.out; omega, by rw [HJ1.out], by rw [HQ.out], by rw [HA3.out], HJ3, HKC⟩
         case measure => have := HMS.out; simp [intOf]; omega
        ·rw [decide_eq_false h1]
         have HQ := mk_ (show ((stp f g (j + 1)).2.1 : Int) = k by rw [← HK1.out]; unfold adv; rw [if_neg h1]; have := HI.out; omega)
         clear h1
         gi_wp2
         go_roundw
         case rel => exact ⟨j + 1, by have := HX.out; omega, by rw [HJ1.out], by rw [HQ.out], by rw [HA3.out], HJ3, HKC⟩
         case measure => have := HMS.out; simp [intOf]; omega
theorem sub_list {α : Type} {p : α → Prop} : ∀ (xs : List α), (∀ x, x ∈ xs → p x) → ∃ E : List {x : α // p x}, E.map Subtype.val = xs
 | [], _ => ⟨[], rfl⟩
 | x :: t, h => by
  obtain ⟨E, hE⟩ := sub_list t (fun y hy => h y (List.mem_cons_of_mem _ hy))
  exact ⟨⟨x, h x (List.mem_cons_self ..)⟩ :: E, by rw [List.map_cons, hE]⟩
theorem str_stops {α : Type} (val : α → ST) (E : List α) (n : Nat) (hn : 1 ≤ n) (B1 B2 n0 : Nat) (A0 A1 : Option Addr) (c0 c1 : Nat) (f g : List S51) (M : Nat) (hM : StOk f g M) (hE : E.map val = stL f g M) (w : World) (hB1 : w.heap[B1]? = some (.cells #[.slice A0 f.length c0] 22 (0, 0))) (hB2 : w.heap[B2]? = some (.cells #[.slice A1 g.length c1] 22 (0, 0)))
  (hC0 : ∀ W', Below n0 w W' → Kd.C k51 W' A0 f.length f) (hC1 : ∀ W', Below n0 w W' → Kd.C k51 W' A1 g.length g) (hn0 : n0 ≤ w.heap.size) :
  SeqStopsK Fence.wide n Try.prog 59 #[.pointer (some ⟨B1, 0, none⟩), .pointer (some ⟨B2, 0, none⟩)] (fun x => encST (val x)) (Keep2 n0 B1 B2) (fun xs => xs = E) (fun pre => ∃ k, pre = E.take k) (M + 1) w := by
 intro lr J Jx W hW hJ _ hY h0
 have hl : E.length = M := by rw [← stL_len f g M, ← hE, List.length_map]
 refine (str1_in n hn lr B1 B2 n0 A0 A1 c0 c1 f g M hM (fun pre W => J (E.take pre.length) W) (fun pre W => Jx (E.take pre.length) W) (fun pre W W' h hb => hJ _ W W' none h (grown_of_below hb none) (fun r e => by cases e)) ?_ W (blk_below hB1 hW) (blk_below hB2 hW) (fun W' h => hC0 W' ((hW.mono hn0).trans h)) (fun W' h => hC1 W' ((hW.mono hn0).trans h)) (Nat.le_trans hn0 hW.size) (by simpa using h0)).mono ?_
 ·rintro pre x W1 h hlen ⟨j, hj, rfl, rfl⟩
  have hlj : ((stL f g M).take j).length = j := by rw [List.length_take, stL_len]; omega
  obtain ⟨e, he, hv⟩ : ∃ e, E[j]? = some e ∧ val e = stE f g j := by
   have h1 := stL_at (f := f) (g := g) hj
   rw [← hE, List.getElem?_map] at h1
   exact Option.map_eq_some_iff.1 h1
  have h2 := hY (E.take j) e W1 (by simp only [hlj] at h; exact h) (by rw [List.length_take]; omega)
  have e1 : E.take ((stL f g M).take j ++ [stE f g j]).length = E.take j ++ [e] := by rw [List.length_append, hlj, List.length_singleton, take_nextE he]
  simp only [hv] at h2
  simp only [e1]
  exact h2
 ·rintro e W' ⟨hv, h⟩
  refine ⟨hv, ?_⟩
  rcases h with ⟨xs, rfl, h⟩ | ⟨pre, ⟨k, rfl⟩, h⟩
  ·refine .inl ⟨E, rfl, ?_⟩
   simp only [stL_len, ← hl, List.take_length] at h
   exact h
  ·exact .inr ⟨_, ⟨_, rfl⟩, h⟩
end
section
def piecewise_line_piece.f (k : Nat) (a0_0 : Int) (a0_1 : Int) (a0_2 : Int) (a0_3 : Int) (a1 : Int) : Option (Int × Int × Int × Int × Int) := (piecewise_line_at.f a0_0 a0_1 a0_2 a0_3 a1).bind fun t133 => ((piecewise_lowest.f k t133 a0_2).bind fun bt134 => ((piecewise_lowest.f k a0_1 a0_2).bind fun bt136 => (some (a1, bt134.1, bt134.2, bt136.1, bt136.2))))
theorem piecewise_line_piece.mono : ∀ a0 a1 a2 a3 a4 k, LeO (piecewise_line_piece.f k a0 a1 a2 a3 a4) (piecewise_line_piece.f (k + 1) a0 a1 a2 a3 a4) := by
 intro a0 a1 a2 a3 a4 k
 unfold piecewise_line_piece.f
 repeat' first
   | (with_reducible exact piecewise_lowest.mono _ _ _)
   | (with_reducible exact LeO.refl _)
   | (with_reducible exact LeO.none _)
   | (with_reducible refine LeO.ite ?_ ?_)
   | (with_reducible refine LeO.bind ?_ (fun _ => ?_))
   | exact piecewise_lowest.mono _ _ _
   | exact LeO.none _
   | refine LeO.ite ?_ ?_
   | refine LeO.bind ?_ (fun _ => ?_)
def piecewise_line_piece.T1 : Bool × List (List Nat × List Nat) := (true, [([], []), ([], []), ([], []), ([1, 2], [1, 2]), ([], []), ([4], [4]), ([3, 5, 3], [3, 5]), ([], []), ([7], [7]), ([], []), ([9], [9]), ([8, 10, 6], [8, 10]), ([0, 6, 11], [0, 6, 11]), ([12, 11, 0, 1, 2, 3, 4, 5, 6, 7, 8, 9, 10, 11, 12], [12])])
def piecewise_line_piece.B1 : List Nat := [0, 0, 0, 6, 0, 16, 62, 0, 128, 0, 512, 2046, 4095, 8191]
theorem piecewise_line_piece.tab1 : rtab .any (opsOf Try.f47 1) = piecewise_line_piece.T1 := by kernel_rfl
theorem piecewise_line_piece.bits1 : waitsOk piecewise_line_piece.T1.2 piecewise_line_piece.B1 = true := by kernel_rfl
theorem piecewise_line_piece.calls (k : Nat) (a0_0 : Int) (a0_1 : Int) (a0_2 : Int) (a0_3 : Int) (a1 : Int) (r1 : Int) (r2 : Int) (r3 : Int) (r4 : Int) (r5 : Int) (w : World) (h : piecewise_line_piece.f k a0_0 a0_1 a0_2 a0_3 a1 = some (r1, r2, r3, r4, r5)) :
  Calls Try.prog 47 #[.agg #[.int .i64 a0_0, .int .i64 a0_1, .int .i64 a0_2, .int .i64 a0_3], .int .i64 a1] w fun e w' => e = .returned (.agg #[.int .i64 r1, .int .i64 r2, .int .i64 r3, .int .i64 r4, .int .i64 r5]) ∧ Below w.heap.size w w' := by
 have hu54 := Try.underlying54
 have hu51 := Try.underlying51
 have HB := mk_ (Below.refl w.heap.size w)
 have H : ((piecewise_line_at.f a0_0 a0_1 a0_2 a0_3 a1).bind fun t133 => ((piecewise_lowest.f k t133 a0_2).bind fun bt134 => ((piecewise_lowest.f k a0_1 a0_2).bind fun bt136 => (some (a1, bt134.1, bt134.2, bt136.1, bt136.2))))) = some (r1, r2, r3, r4, r5) := h
 clear h
 replace H := Option.bind_eq_some_iff.mp H
 obtain ⟨t133, A30, H⟩ := H
 replace H : ((piecewise_lowest.f k t133 a0_2).bind fun bt134 => ((piecewise_lowest.f k a0_1 a0_2).bind fun bt136 => (some (a1, bt134.1, bt134.2, bt136.1, bt136.2)))) = some (r1, r2, r3, r4, r5) := H
 have A3 := mk_ A30
 clear A30
 replace H := Option.bind_eq_some_iff.mp H
 obtain ⟨⟨t134, t135⟩, A40, H⟩ := H
 replace H : ((piecewise_lowest.f k a0_1 a0_2).bind fun bt136 => (some (a1, t134, t135, bt136.1, bt136.2))) = some (r1, r2, r3, r4, r5) := H
 have A4 := mk_ A40
 clear A40
 replace H := Option.bind_eq_some_iff.mp H
 obtain ⟨⟨t136, t137⟩, A50, H⟩ := H
 replace H : (some (a1, t134, t135, t136, t137)) = some (r1, r2, r3, r4, r5) := H
 have A5 := mk_ A50
 clear A50
 simp only [Option.some.injEq, Prod.mk.injEq] at H
 obtain ⟨rfl, rfl, rfl, rfl, rfl⟩ := H
 go_enter Try.func47, Try.ntmps47
 try go_wp2_with (first | ((with_reducible refine gate_dst (N := 2) rfl ?_); refine box_event ?hg (N := 2) ?hd (cs := #[.int .i64 a0_0, .int .i64 a0_1, .int .i64 a0_2, .int .i64 a0_3]) (t := 54) ?hr ?_; (case hd => rfl); (case hg => rfl); (case hr => first | (go_simp; done) | (go_simp; rfl)); intro gb131 hg w6 hbox hb; have BK131 := mk_ (hbox); have GW131 := mk_ (bz_ hg (bb_ HB)); have GE131 := mk_ (bz_ hg (bb_ HB)); replace HB := mk_ (below_step (bb_ HB) hb); clear hb hbox hg) | ((with_reducible refine gate_dst (N := 4) rfl ?_); refine box_event ?hg (N := 4) ?hd (cs := #[.int .i64 0, .int .i64 0, .int .i64 0, .int .i64 0, .int .i64 0]) (t := 51) ?hr ?_; (case hd => rfl); (case hg => rfl); (case hr => first | (go_simp; done) | (go_simp; rfl)); intro gb132 hg w7 hbox hb; have BK132 := mk_ (hbox); have GW132 := mk_ (bz_ hg (bs_ HB GE131.out)); have GE132 := mk_ (bz_ hg (bs_ HB GE131.out)); replace HB := mk_ (below_step (bs_ HB GE131.out) hb); have NB131_132 := mk_ (bl_ hg (kk_ BK131)); have NB132_131 := mk_ (bg_ hg (kk_ BK131)); replace BK131 := mk_ (blk_below (kk_ BK131) hb); clear hb hbox hg))
 replace BK131 := mk_ (blk_drew BK131.out)
 replace BK132 := mk_ (blk_drew BK132.out)
 replace HB := mk_ (below_drew1 HB.out)
 refine start_ (n := 14) (S := fun w' => w'.cell? ⟨gb131, 0, none⟩ = some (.int .i64 a0_0) ∧ w'.cell? ⟨gb131, 1, none⟩ = some (.int .i64 a0_1) ∧ w'.cell? ⟨gb131, 2, none⟩ = some (.int .i64 a0_2) ∧ w'.cell? ⟨gb131, 3, none⟩ = some (.int .i64 a0_3)) (ds := []) #[n_, n_, n_, n_, n_, n_, n_, n_, n_, n_, n_, n_, n_, n_] (by kernel_rfl) rfl rfl ⟨(blk_cell BK131.out 0).trans rfl, (blk_cell BK131.out 1).trans rfl, (blk_cell BK131.out 2).trans rfl, (blk_cell BK131.out 3).trans rfl⟩ (fun hHeld => ?_); refine with_tabW piecewise_line_piece.tab1 piecewise_line_piece.bits1 (fun HT_ HW_ => ?_)
 generalize w7.drew = w8 at BK131 BK132 HB hHeld ⊢
 refine pu_ 0 5 (w_ 14 1) rfl HT_ ?_
 refine pu_ 2 7 (w_ 14 5) rfl HT_ ?_
 refine pu_ 4 9 (w_ 14 21) rfl HT_ ?_
 refine pu_ 7 12 (w_ 14 149) rfl HT_ ?_
 refine pu_ 9 14 (w_ 14 661) rfl HT_ ?_
 refine ta_ 1 6 (w_ 14 663) rfl HT_ HW_ hHeld (by rintro w' ⟨s0, s1, s2, s3⟩; go_simp; with_reducible rfl) ?_
 refine ta_ 5 10 (w_ 14 695) rfl HT_ HW_ hHeld (by rintro w' ⟨s0, s1, s2, s3⟩; go_simp; with_reducible rfl) ?_
 refine ta_ 8 13 (w_ 14 951) rfl HT_ HW_ hHeld (by rintro w' ⟨s0, s1, s2, s3⟩; go_simp; with_reducible rfl) ?_
 refine ta_ 10 15 (w_ 14 1975) rfl HT_ HW_ hHeld (by rintro w' ⟨s0, s1, s2, s3⟩; go_simp; with_reducible rfl) ?_
 refine one_ (i := 3) (N := some 8) (w_ 14 1983) rfl rfl (one_of HT_.out (by kernel_rfl)) (by decide) (fun K hK => ?_)
 refine goes_ Try.func36 (by kernel_rfl) rfl #[.agg #[.int .i64 a0_0, .int .i64 a0_1, .int .i64 a0_2, .int .i64 a0_3], .int .i64 a1] (by rfl) rfl rfl (by (try simp only [List.map_toArray, List.map_cons, List.map_nil]); first | done | rfl | (simp only [List.length_drop, List.length_take]; rfl)) ?_
 with_reducible refine (piecewise_line_at.calls a0_0 a0_1 a0_2 a0_3 a1 t133 _ A3.out).mono ?_
 rintro e w9 ⟨rfl, hb⟩
 refine ⟨_, rfl, ?_⟩
 replace BK131 := mk_ (blk_below (kk_ BK131) hb)
 replace BK132 := mk_ (blk_below (kk_ BK132) hb)
 replace HB := mk_ (below_step (bs2_ HB GE131 GE132) hb)
 (try clear hb)
 refine hK.out _ _ ⟨(blk_cell BK131.out 0).trans rfl, (blk_cell BK131.out 1).trans rfl, (blk_cell BK131.out 2).trans rfl, (blk_cell BK131.out 3).trans rfl⟩ (fun hHeld => ?_)
 clear hK K
 refine norm_ (a' := ?_) ?_ ?_
 rotate_left
 ·show Act.put _ (some 8) _ = _
  simp only [Act.put, sI_, s0_, sS_, i64_w, i32_w]
  rfl
 refine one_ (i := 6) (N := some 11) (w_ 14 2047) rfl rfl (one_of HT_.out (by kernel_rfl)) (by decide) (fun K hK => ?_)
 refine goes_ Try.func35 (by kernel_rfl) rfl #[.int .i64 t133, .int .i64 a0_2] (by rfl) rfl rfl (by (try simp only [List.map_toArray, List.map_cons, List.map_nil]); first | done | rfl | (simp only [List.length_drop, List.length_take]; rfl)) ?_
 with_reducible refine (piecewise_lowest.calls k t133 a0_2 t134 t135 _ A4.out).mono ?_
 rintro e w10 ⟨rfl, hb⟩
 refine ⟨_, rfl, ?_⟩
 replace BK131 := mk_ (blk_below (kk_ BK131) hb)
 replace BK132 := mk_ (blk_below (kk_ BK132) hb)
 replace HB := mk_ (below_step (bs2_ HB GE131 GE132) hb)
 (try clear hb)
 refine hK.out _ _ ⟨(blk_cell BK131.out 0).trans rfl, (blk_cell BK131.out 1).trans rfl, (blk_cell BK131.out 2).trans rfl, (blk_cell BK131.out 3).trans rfl⟩ (fun hHeld => ?_)
 clear hK K
 refine norm_ (a' := ?_) ?_ ?_
 rotate_left
 ·show Act.put _ (some 11) _ = _
  simp only [Act.put, sI_, s0_, sS_, i64_w, i32_w]
  rfl
 refine one_ (i := 11) (N := some 16) (w_ 14 4095) rfl rfl (one_of HT_.out (by kernel_rfl)) (by decide) (fun K hK => ?_)
 refine goes_ Try.func35 (by kernel_rfl) rfl #[.int .i64 a0_1, .int .i64 a0_2] (by rfl) rfl rfl (by (try simp only [List.map_toArray, List.map_cons, List.map_nil]); first | done | rfl | (simp only [List.length_drop, List.length_take]; rfl)) ?_
 with_reducible refine (piecewise_lowest.calls k a0_1 a0_2 t136 t137 _ A5.out).mono ?_
 rintro e w11 ⟨rfl, hb⟩
 refine ⟨_, rfl, ?_⟩
 replace BK131 := mk_ (blk_below (kk_ BK131) hb)
 replace BK132 := mk_ (blk_below (kk_ BK132) hb)
 replace HB := mk_ (below_step (bs2_ HB GE131 GE132) hb)
 (try clear hb)
 refine hK.out _ _ ⟨(blk_cell BK131.out 0).trans rfl, (blk_cell BK131.out 1).trans rfl, (blk_cell BK131.out 2).trans rfl, (blk_cell BK131.out 3).trans rfl⟩ (fun hHeld => ?_)
 clear hK K
 refine norm_ (a' := ?_) ?_ ?_
 rotate_left
 ·show Act.put _ (some 16) _ = _
  simp only [Act.put, sI_, s0_, sS_, i64_w, i32_w]
  rfl
 refine pu_ 12 17 (w_ 14 8191) rfl HT_ ?_
 refine one_ (i := 13) (N := none) (w_ 14 16383) rfl rfl (one_of HT_.out (by kernel_rfl)) (by decide) (fun K hK => ?_)
 have hs12 : w11.cell? ⟨gb132, 0, none⟩ = some (.int .i64 0) := (blk_cell BK132.out 0).trans rfl
 have hfs12 := blk_frozen BK132.out 0
 have hns12_0 := NB131_132.out
 have hms12_0 := NB132_131.out
 have hs13 : w11.cell? ⟨gb132, 1, none⟩ = some (.int .i64 0) := (blk_cell BK132.out 1).trans rfl
 have hfs13 := blk_frozen BK132.out 1
 have hns13_0 := NB131_132.out
 have hms13_0 := NB132_131.out
 have hs14 : w11.cell? ⟨gb132, 2, none⟩ = some (.int .i64 0) := (blk_cell BK132.out 2).trans rfl
 have hfs14 := blk_frozen BK132.out 2
 have hns14_0 := NB131_132.out
 have hms14_0 := NB132_131.out
 have hs15 : w11.cell? ⟨gb132, 3, none⟩ = some (.int .i64 0) := (blk_cell BK132.out 3).trans rfl
 have hfs15 := blk_frozen BK132.out 3
 have hns15_0 := NB131_132.out
 have hms15_0 := NB132_131.out
 have hs16 : w11.cell? ⟨gb132, 4, none⟩ = some (.int .i64 0) := (blk_cell BK132.out 4).trans rfl
 have hfs16 := blk_frozen BK132.out 4
 have hns16_0 := NB131_132.out
 have hms16_0 := NB132_131.out
 refine skip_ (w1 := ?_) (by rfl) rfl ?_ ?_
 rotate_left
 ·go_simp
  rfl
 refine hK.out _ _ ⟨((cell_far (p := ⟨gb132, _, none⟩) NB131_132.out _).trans (((cell_far (p := ⟨gb132, _, none⟩) NB131_132.out _).trans (((cell_far (p := ⟨gb132, _, none⟩) NB131_132.out _).trans (((cell_far (p := ⟨gb132, _, none⟩) NB131_132.out _).trans (((cell_far (p := ⟨gb132, _, none⟩) NB131_132.out _).trans (hHeld.1)))))))))), ((cell_far (p := ⟨gb132, _, none⟩) NB131_132.out _).trans (((cell_far (p := ⟨gb132, _, none⟩) NB131_132.out _).trans (((cell_far (p := ⟨gb132, _, none⟩) NB131_132.out _).trans (((cell_far (p := ⟨gb132, _, none⟩) NB131_132.out _).trans (((cell_far (p := ⟨gb132, _, none⟩) NB131_132.out _).trans (hHeld.2.1)))))))))), ((cell_far (p := ⟨gb132, _, none⟩) NB131_132.out _).trans (((cell_far (p := ⟨gb132, _, none⟩) NB131_132.out _).trans (((cell_far (p := ⟨gb132, _, none⟩) NB131_132.out _).trans (((cell_far (p := ⟨gb132, _, none⟩) NB131_132.out _).trans (((cell_far (p := ⟨gb132, _, none⟩) NB131_132.out _).trans (hHeld.2.2.1)))))))))), ((cell_far (p := ⟨gb132, _, none⟩) NB131_132.out _).trans (((cell_far (p := ⟨gb132, _, none⟩) NB131_132.out _).trans (((cell_far (p := ⟨gb132, _, none⟩) NB131_132.out _).trans (((cell_far (p := ⟨gb132, _, none⟩) NB131_132.out _).trans (((cell_far (p := ⟨gb132, _, none⟩) NB131_132.out _).trans (hHeld.2.2.2))))))))))⟩ (fun hHeld => ?_)
 clear hK K
 refine done_ (done_of HT_.out (by kernel_rfl)) ?_
 try go_wp2
 refine bodyPost_ret (results_cell_row rfl _ _ gb132 51 #[.int .i64 a1, .int .i64 t134, .int .i64 t135, .int .i64 t136, .int .i64 t137] (0, 0) _ rfl (by (with_reducible repeat (first | refine blk_drewN ?_ _ | refine blk_drew ?_ | refine blk_alloc ?_ _)); refine blk_put (cs := #[.int .i64 a1, .int .i64 t134, .int .i64 t135, .int .i64 t136, .int .i64 0]) ?_ 4 _ rfl; (with_reducible repeat (first | refine blk_drewN ?_ _ | refine blk_drew ?_ | refine blk_alloc ?_ _)); refine blk_put (cs := #[.int .i64 a1, .int .i64 t134, .int .i64 t135, .int .i64 0, .int .i64 0]) ?_ 3 _ rfl; (with_reducible repeat (first | refine blk_drewN ?_ _ | refine blk_drew ?_ | refine blk_alloc ?_ _)); refine blk_put (cs := #[.int .i64 a1, .int .i64 t134, .int .i64 0, .int .i64 0, .int .i64 0]) ?_ 2 _ rfl; (with_reducible repeat (first | refine blk_drewN ?_ _ | refine blk_drew ?_ | refine blk_alloc ?_ _)); refine blk_put (cs := #[.int .i64 a1, .int .i64 0, .int .i64 0, .int .i64 0, .int .i64 0]) ?_ 1 _ rfl; (with_reducible repeat (first | refine blk_drewN ?_ _ | refine blk_drew ?_ | refine blk_alloc ?_ _)); refine blk_put (cs := #[.int .i64 0, .int .i64 0, .int .i64 0, .int .i64 0, .int .i64 0]) ?_ 0 _ rfl; (with_reducible repeat (first | refine blk_drewN ?_ _ | refine blk_drew ?_ | refine blk_alloc ?_ _)); exact BK132.out) Try.underlying51 rfl (by kernel_rfl)) rfl ?_
 exact ⟨ew_, bs2_ HB GE131 GE132⟩
end
section
open Go.Proofs.YtmhimmodigeeiaaH
structure BD where
 last : LN
 out : List S51
 bad : Bool
def pieceO (k : Nat) (l : LN) (x : Int) : Option S51 := (piecewise_line_piece.f k l.n l.s l.d l.fr x).bind fun t => some ⟨t.1, ⟨t.2.1, t.2.2.1⟩, ⟨t.2.2.2.1, t.2.2.2.2⟩⟩
def eqP (p q : S51) : Bool := p.f0 == q.f0 && ((p.f1.f0 == q.f1.f0 && (p.f1.f1 == q.f1.f1)) && (p.f2.f0 == q.f2.f0 && (p.f2.f1 == q.f2.f1)))
def numB (p : S51) : Option Bool := piecewise_numbers.f p.f0 p.f1.f0 p.f1.f1 p.f2.f0 p.f2.f1
def putO (k : Nat) (b : BD) (l : LN) (x : Int) : Option BD :=
 (pieceO k l x).bind fun p => if b.out.length = 0 then ((numB p).bind fun ok => some ⟨l, b.out ++ [p], b.bad || !ok⟩)
  else ((pieceO k b.last x).bind fun q => if eqP p q = true then some ⟨l, b.out, b.bad⟩ else ((numB p).bind fun ok => some ⟨l, b.out ++ [p], b.bad || !ok⟩))
theorem pieceO_calls (k : Nat) (l : LN) (x : Int) (p : S51) (w : World) (h : pieceO k l x = some p) : Calls Try.prog 47 #[.agg #[.int .i64 l.n, .int .i64 l.s, .int .i64 l.d, .int .i64 l.fr], .int .i64 x] w fun e w' => e = .returned (.agg #[.int .i64 p.f0, .int .i64 p.f1.f0, .int .i64 p.f1.f1, .int .i64 p.f2.f0, .int .i64 p.f2.f1]) ∧ Below w.heap.size w w' := by
 unfold pieceO at h
 obtain ⟨t, ht, h⟩ := Option.bind_eq_some_iff.1 h
 obtain rfl := Option.some.inj h
 exact piecewise_line_piece.calls k l.n l.s l.d l.fr x _ _ _ _ _ w ht
theorem numB_calls (p : S51) (b : Bool) (w : World) (h : numB p = some b) : Calls Try.prog 38 #[.agg #[.int .i64 p.f0, .int .i64 p.f1.f0, .int .i64 p.f1.f1, .int .i64 p.f2.f0, .int .i64 p.f2.f1]] w fun e w' => e = .returned (.bool b) ∧ Below w.heap.size w w' :=
 piecewise_numbers.calls _ _ _ _ _ b w h
theorem eqQ24 (d : Nat) (w : World) (x0 y0 : Int) (x1 y1 : Int) :
  (Op.equalIn (d + 2) 24 (.agg #[.int .i64 x0, .int .i64 x1]) (.agg #[.int .i64 y0, .int .i64 y1])).run Try.prog w = .ok (x0 == y0 && (x1 == y1)) w := by
 refine eqA_of Try.underlying24 (by kernel_rfl) ?_
 refine eqf_cons (by rfl) (by go_simp; rfl) (by go_simp; rfl) (by go_simp) ?_
 exact eqf_last (by rfl) (by go_simp; rfl) (by go_simp; rfl) (by go_simp)
theorem eqQ51 (d : Nat) (w : World) (x0 y0 x1 y1 x2 y2 x3 y3 x4 y4 : Int) :
  (Op.equalIn (d + 3) 51 (.agg #[.int .i64 x0, .int .i64 x1, .int .i64 x2, .int .i64 x3, .int .i64 x4]) (.agg #[.int .i64 y0, .int .i64 y1, .int .i64 y2, .int .i64 y3, .int .i64 y4])).run Try.prog w = .ok (x0 == y0 && ((x1 == y1 && (x2 == y2)) && (x3 == y3 && (x4 == y4)))) w := by
 refine eqA_of Try.underlying51 (by kernel_rfl) ?_
 refine eqf_cons (by rfl) (by go_simp; rfl) (by go_simp; rfl) (by go_simp) ?_
 refine eqf_cons (by rfl) (by go_simp) (by go_simp) (eqQ24 (d + 0) w _ _ _ _) ?_
 exact eqf_last (by rfl) (by go_simp) (by go_simp) (eqQ24 (d + 0) w _ _ _ _)
attribute [local go_sem high] eqQ51
def BdAt (W : World) (base g : Nat) (b : BD) (v : Value) : Prop := W.heap[g]? = some (.cells #[.int .i64 b.last.n, .int .i64 b.last.s, .int .i64 b.last.d, .int .i64 b.last.fr, v, .bool b.bad] 59 (0, 0)) ∧ Kd.R k51 51 W base (fun _ => True) v b.out
theorem neP (p q : S51) : (!p.f0 == q.f0 || (!p.f1.f0 == q.f1.f0 || !p.f1.f1 == q.f1.f1 || (!p.f2.f0 == q.f2.f0 || !p.f2.f1 == q.f2.f1))) = !eqP p q := by
 simp only [eqP, Bool.not_and]
theorem put_end {w W' : World} {n0 g : Nat} {b b0 : BD} {cs : Array Value} {v v' : Value} (hg : w.heap[g]? = some (.cells cs 59 (0, 0))) (hR : Kd.R k51 51 w n0 (fun _ => True) v b0.out) (hb : Below n0 w W') (hk : KeepBut w W' g v.ownBlock) (hB : BdAt W' n0 g b v') :
  (∃ v', BdAt W' n0 g b v') ∧ Below n0 w W' ∧ KeepsOthers w W' ∧ ∀ i, i < w.heap.size → i ≠ g → some i ≠ v.ownBlock → W'.heap[i]? = w.heap[i]? := by
 refine ⟨⟨_, hB⟩, hb, ⟨hb.size, fun i o hi ho => (hk.2 i (blk_lt hi) ?_ ?_).trans hi⟩, hk.2⟩
 ·rintro rfl
  rw [hg] at hi
  cases hi
  cases ho
 ·intro e
  obtain ⟨cells, hc⟩ := Kd.R_typed hR i e.symm
  rw [hc] at hi
  cases hi
  cases ho
set_option maxHeartbeats 16000000 in
theorem put_calls (k : Nat) (b b' : BD) (l : LN) (x : Int) (w : World) (n0 g : Nat) (v : Value) (hn : n0 ≤ g) (hb : BdAt w n0 g b v) (hlen : b.out.length ≤ 1000000) (h : putO k b l x = some b') :
  Calls Try.prog 40 #[.pointer (some ⟨g, 0, none⟩), .agg #[.int .i64 l.n, .int .i64 l.s, .int .i64 l.d, .int .i64 l.fr], .int .i64 x] w fun e w' => (∃ u, e = .returned u) ∧ (∃ v', BdAt w' n0 g b' v') ∧ Below n0 w w' ∧ KeepsOthers w w' ∧ ∀ i, i < w.heap.size → i ≠ g → some i ≠ v.ownBlock → w'.heap[i]? = w.heap[i]? := by
 have hu51 := Try.underlying51
 have hu54 := Try.underlying54
 have hu59 := Try.underlying59
 have hu24 := Try.underlying24
 obtain ⟨hg, hR⟩ := hb
 obtain ⟨Av, cv, ev⟩ := Kd.R_slice hR
 obtain ⟨nv, hnv⟩ : ∃ nv, nv = b.out.length := ⟨_, rfl⟩
 rw [← hnv] at ev
 subst ev
 have HNV := mk_ hnv
 clear hnv
 unfold putO at h
 obtain ⟨p, hp, h⟩ := Option.bind_eq_some_iff.1 h
 have HP := mk_ hp
 have HG := mk_ hg
 have HR := mk_ hR
 have HB := mk_ (Below.refl w.heap.size w)
 go_enter Try.func40, Try.ntmps40
 go_upto_region 2 with (first | ((with_reducible refine gate_dst (N := 4) rfl ?_); refine box_event ?hg (N := 4) ?hd (cs := #[.int .i64 l.n, .int .i64 l.s, .int .i64 l.d, .int .i64 l.fr]) (t := 54) ?hr ?_; (case hd => rfl); (case hg => rfl); (case hr => first | (go_simp; done) | (go_simp; rfl)); intro g1 hg_L w1 hbox_ hb_; have n0_ := mk_ (below_step HB.out hb_); have BL := mk_ hbox_; have GL := mk_ (show w.heap.size ≤ g1 by rw [hg_L]; exact below_size HB.out); have EL := mk_ hg_L; have hcL0 : w1.cell? ⟨g1, 0, none⟩ = some (.int .i64 l.n) := (blk_cell hbox_ 0).trans rfl; have hfL0 := blk_frozen hbox_ 0; have hcL1 : w1.cell? ⟨g1, 1, none⟩ = some (.int .i64 l.s) := (blk_cell hbox_ 1).trans rfl; have hfL1 := blk_frozen hbox_ 1; have hcL2 : w1.cell? ⟨g1, 2, none⟩ = some (.int .i64 l.d) := (blk_cell hbox_ 2).trans rfl; have hfL2 := blk_frozen hbox_ 2; have hcL3 : w1.cell? ⟨g1, 3, none⟩ = some (.int .i64 l.fr) := (blk_cell hbox_ 3).trans rfl; have hfL3 := blk_frozen hbox_ 3; clear HB hg_L hbox_ hb_; have HB := n0_; clear n0_) | (go_at_call 47; (with_reducible refine (pieceO_calls k l x p _ HP.out).mono ?_); rintro e w2 ⟨rfl, hb_⟩; have n0_ := mk_ (below_step HB.out hb_); have BL := mk_ (blk_below BL.out hb_); clear HB hb_; have HB := n0_; clear n0_) | ((with_reducible refine gate_dst (N := 6) rfl ?_); refine box_event ?hg (N := 6) ?hd (cs := #[.int .i64 0, .int .i64 0, .int .i64 0, .int .i64 0, .int .i64 0]) (t := 51) ?hr ?_; (case hd => rfl); (case hg => rfl); (case hr => first | (go_simp; done) | (go_simp; rfl)); intro g2 hg_P w3 hbox_ hb_; have n0_ := mk_ (below_step HB.out hb_); have BP := mk_ hbox_; have GP := mk_ (show w.heap.size ≤ g2 by rw [hg_P]; exact below_size HB.out); have EP := mk_ hg_P; have hcP0 : w3.cell? ⟨g2, 0, none⟩ = some (.int .i64 0) := (blk_cell hbox_ 0).trans rfl; have hfP0 := blk_frozen hbox_ 0; have hcP1 : w3.cell? ⟨g2, 1, none⟩ = some (.int .i64 0) := (blk_cell hbox_ 1).trans rfl; have hfP1 := blk_frozen hbox_ 1; have hcP2 : w3.cell? ⟨g2, 2, none⟩ = some (.int .i64 0) := (blk_cell hbox_ 2).trans rfl; have hfP2 := blk_frozen hbox_ 2; have hcP3 : w3.cell? ⟨g2, 3, none⟩ = some (.int .i64 0) := (blk_cell hbox_ 3).trans rfl; have hfP3 := blk_frozen hbox_ 3; have hcP4 : w3.cell? ⟨g2, 4, none⟩ = some (.int .i64 0) := (blk_cell hbox_ 4).trans rfl; have hfP4 := blk_frozen hbox_ 4; have BL := mk_ (blk_below BL.out hb_); clear HB hg_P hbox_ hb_; have HB := n0_; clear n0_))
 obtain ⟨w4, hw4⟩ : ∃ w4, w4 = ((((w3.setCell ⟨g2, 0, none⟩ (.int .i64 p.f0)).setCell ⟨g2, 1, none⟩ (.int .i64 p.f1.f0)).setCell ⟨g2, 2, none⟩ (.int .i64 p.f1.f1)).setCell ⟨g2, 3, none⟩ (.int .i64 p.f2.f0)).setCell ⟨g2, 4, none⟩ (.int .i64 p.f2.f1) := ⟨_, rfl⟩
 rw [← hw4]
 have BP4 := mk_ (show w4.heap[g2]? = some (.cells #[.int .i64 p.f0, .int .i64 p.f1.f0, .int .i64 p.f1.f1, .int .i64 p.f2.f0, .int .i64 p.f2.f1] 51 (0, 0)) by rw [hw4]; exact blk_put (blk_put (blk_put (blk_put (blk_put BP.out 0 _ rfl) 1 _ rfl) 2 _ rfl) 3 _ rfl) 4 _ rfl)
 have HB4 := mk_ (show Below w.heap.size w w4 by rw [hw4]; exact below_set (below_set (below_put3 HB.out GP.out _ _ _) GP.out) GP.out)
 have NLP := mk_ (blk_ne BL.out BP.out (by decide))
 have BL4 := mk_ (show w4.heap[g1]? = some (.cells #[.int .i64 l.n, .int .i64 l.s, .int .i64 l.d, .int .i64 l.fr] 54 (0, 0)) by rw [hw4]; exact blk_far (p := ⟨g2, 4, none⟩) (blk_far (p := ⟨g2, 3, none⟩) (blk_far (p := ⟨g2, 2, none⟩) (blk_far (p := ⟨g2, 1, none⟩) (blk_far (p := ⟨g2, 0, none⟩) BL.out NLP.out _) NLP.out _) NLP.out _) NLP.out _) NLP.out _)
 have BG4 := mk_ (blk_below HG.out HB4.out)
 have HGL := mk_ (blk_lt HG.out)
 have HN0 := mk_ (show n0 ≤ w.heap.size by have := HGL.out; omega)
 clear hw4 BP HB BL hcL0 hcL1 hcL2 hcL3 hfL0 hfL1 hfL2 hfL3 hcP0 hcP1 hcP2 hcP3 hcP4 hfP0 hfP1 hfP2 hfP3 hfP4 hp hg hR
 have hcv : w4.drew.cell? ⟨g, 4, none⟩ = some (.slice Av nv cv) := (blk_cell (show w4.drew.heap[g]? = _ from BG4.out) 4).trans rfl
 by_cases hz : b.out.length = 0
 ·rw [if_pos hz] at h
  obtain ⟨ok, hok, h⟩ := Option.bind_eq_some_iff.1 h
  obtain rfl := Option.some.inj h
  have HOK := mk_ hok
  have z1 : ((nv : Int) == 0) = true := beq_iff_eq.2 (by have := HNV.out; omega)
  have z2 : (nv == 0) = true := beq_iff_eq.2 (by have := HNV.out; omega)
  clear h hok
  refine start_ (n := 16) (S := fun w' => w'.cell? ⟨g, 4, none⟩ = some (.slice Av nv cv)) (ds := []) #[n_, n_, n_, n_, n_, n_, n_, n_, n_, n_, n_, n_, n_, n_, n_, n_] (by kernel_rfl) rfl rfl (hcv) (fun hHeld => ?_)
  refine pv_ 0 10 (w_ 16 1) rfl ?_
  refine pv_ 1 11 (w_ 16 3) rfl ?_
  refine pv_ 2 12 (w_ 16 7) rfl ?_
  refine take_ (i := 3) (N := some 13) (v := ?_) (a' := ?_) #[y_, y_, y_, y_, n_, n_, n_, n_, n_, n_, n_, n_, n_, n_, n_, n_] rfl rfl (by kernel_rfl) (fun _ _ _ h => h) (Or.inl ⟨by rfl, ?_⟩) hHeld ?_ ?_
  rotate_left
  ·intro w' s0
   go_simp
   with_reducible rfl
  rotate_left
  ·simp only [Act.put, sI_, s0_, sS_, i64_w, i32_w]
   rfl
  refine pv_ 4 14 (w_ 16 31) rfl ?_
  refine pv_ 5 15 (w_ 16 63) rfl ?_
  refine pv_ 6 16 (w_ 16 127) rfl ?_
  refine po_ 7 17 (w_ 16 255) rfl ?_
  refine po_ 8 18 (w_ 16 511) rfl ?_
  refine po_ 9 19 (w_ 16 1023) rfl ?_
  refine po_ 10 20 (w_ 16 2047) rfl ?_
  refine po_ 11 21 (w_ 16 4095) rfl ?_
  refine po_ 12 22 (w_ 16 8191) rfl ?_
  refine po_ 13 23 (w_ 16 16383) rfl ?_
  refine po_ 14 24 (w_ 16 32767) rfl ?_
  refine pv_ 15 25 (w_ 16 65535) rfl ?_
  refine done_ (by kernel_rfl) ?_
  have BG5 := mk_ (show w4.drew.heap[g]? = _ from BG4.out)
  have BL5 := mk_ (show w4.drew.heap[g1]? = _ from BL4.out)
  have BP5 := mk_ (show w4.drew.heap[g2]? = _ from BP4.out)
  have HB5 := mk_ (below_drew HB4.out)
  obtain ⟨W5, hW5⟩ : ∃ W5, W5 = w4.drew := ⟨_, rfl⟩
  rw [← hW5] at BG5 BL5 BP5 HB5 ⊢
  clear hW5 hcv
  have NGV := mk_ (Kd.R_ne HR.out HG.out (by decide))
  have NPV := mk_ (show some g2 ≠ (Value.slice Av nv cv).ownBlock from fun e => by have := Kd.R_lt HR.out g2 e.symm; have := GP.out; omega)
  have NLV := mk_ (show some g1 ≠ (Value.slice Av nv cv).ownBlock from fun e => by have := Kd.R_lt HR.out g1 e.symm; have := GL.out; omega)
  have HR5 := mk_ (Kd.R_drew (Kd.R_below HR.out HB5.out))
  go_wp2_with (fail)
  refine start_ (n := 11) (S := fun w' => w'.cell? ⟨g, 4, none⟩ = some (.slice Av nv cv) ∧ w'.cell? ⟨g2, 0, none⟩ = some (.int .i64 p.f0) ∧ w'.cell? ⟨g2, 1, none⟩ = some (.int .i64 p.f1.f0) ∧ w'.cell? ⟨g2, 2, none⟩ = some (.int .i64 p.f1.f1) ∧ w'.cell? ⟨g2, 3, none⟩ = some (.int .i64 p.f2.f0) ∧ w'.cell? ⟨g2, 4, none⟩ = some (.int .i64 p.f2.f1)) (ds := [10]) #[n_, n_, n_, n_, n_, n_, n_, n_, n_, n_, n_] (by kernel_rfl) rfl rfl ⟨(blk_cell (show W5.drew.heap[g]? = _ from BG5.out) 4).trans rfl, (blk_cell (show W5.drew.heap[g2]? = _ from BP5.out) 0).trans rfl, (blk_cell (show W5.drew.heap[g2]? = _ from BP5.out) 1).trans rfl, (blk_cell (show W5.drew.heap[g2]? = _ from BP5.out) 2).trans rfl, (blk_cell (show W5.drew.heap[g2]? = _ from BP5.out) 3).trans rfl, (blk_cell (show W5.drew.heap[g2]? = _ from BP5.out) 4).trans rfl⟩ (fun hHeld => ?_)
  refine pv_ 0 26 (w_ 11 1) rfl ?_
  refine pv_ 1 27 (w_ 11 3) rfl ?_
  refine pv_ 2 28 (w_ 11 7) rfl ?_
  refine pv_ 3 29 (w_ 11 15) rfl ?_
  refine tb_ 4 30 (w_ 11 31) rfl hHeld (by rintro w' ⟨s0, s1, s2, s3, s4, s5⟩; go_simp; with_reducible rfl) ?_
  refine tb_ 5 31 (w_ 11 63) rfl hHeld (by rintro w' ⟨s0, s1, s2, s3, s4, s5⟩; go_simp; with_reducible rfl) ?_
  refine one_ (i := 6) (N := some 32) (w_ 11 127) rfl rfl (by kernel_rfl) (by decide) (fun K hK => ?_)
  refine value_ (w1 := ?_) (v := ?_) (by rfl) rfl ?_ ?_
  rotate_left 2
  ·go_simp
   constructor
   ·rfl
   ·rfl
  refine hK.out _ _ ⟨(World.cell?_alloc_lt _ _ _ (World.block_lt_of_cell? _ _ (hHeld.1))).trans (hHeld.1), (World.cell?_alloc_lt _ _ _ (World.block_lt_of_cell? _ _ (hHeld.2.1))).trans (hHeld.2.1), (World.cell?_alloc_lt _ _ _ (World.block_lt_of_cell? _ _ (hHeld.2.2.1))).trans (hHeld.2.2.1), (World.cell?_alloc_lt _ _ _ (World.block_lt_of_cell? _ _ (hHeld.2.2.2.1))).trans (hHeld.2.2.2.1), (World.cell?_alloc_lt _ _ _ (World.block_lt_of_cell? _ _ (hHeld.2.2.2.2.1))).trans (hHeld.2.2.2.2.1), (World.cell?_alloc_lt _ _ _ (World.block_lt_of_cell? _ _ (hHeld.2.2.2.2.2))).trans (hHeld.2.2.2.2.2)⟩ (fun hHeld => ?_)
  clear hK K
  refine norm_ (a' := ?_) ?_ ?_
  rotate_left
  ·show Act.put _ (some 32) _ = _
   simp only [Act.put, sI_, s0_, sS_, i64_w, i32_w]
   rfl
  refine one_ (i := 7) (N := some 33) (w_ 11 255) rfl rfl (by kernel_rfl) (by decide) (fun K hK => ?_)
  refine Kd.R_append_step (W := W5.drew) k51 (w0 := w) n0 rfl (.tmp 30) (.tmp 32) 22 51 (.agg #[.int .i64 0, .int .i64 0, .int .i64 0, .int .i64 0, .int .i64 0]) 40 rfl Try.underlying22 info51 rfl (by decide) (by omega) (.slice Av nv cv) b.out p [.int .i64 p.f0, .int .i64 p.f1.f0, .int .i64 p.f1.f1, .int .i64 p.f2.f0, .int .i64 p.f2.f1] (fun _ => True) (fun _ => False) rfl rfl (k51_mkM _ _ _ p) (fun _ hk => hk.elim) (fun _ _ => trivial) HR5.out ((below_drew HB5.out).mono HN0.out) (Nat.le_trans HN0.out (below_size (below_drew HB5.out))) (by omega) ?_
  intro v10 w10 ho10 hb10 hg10 hat10
  obtain ⟨n10, hn10⟩ : ∃ n10, n10 = (b.out ++ [p]).length := ⟨_, rfl⟩
  obtain ⟨A10, c10, e10⟩ := Kd.R_slice ho10
  rw [← hn10] at e10
  subst e10
  have HO10 := mk_ ho10
  have HG10 := mk_ hg10
  have HB10 := mk_ hb10
  have hf10 := blk_frozen (blk_grown (blk_drew BG5.out) HG10.out NGV.out) 4
  clear ho10 hb10 hg10 hat10 hn10
  refine hK.out _ _ ⟨(blk_cell (blk_grown (blk_drew BG5.out) HG10.out NGV.out) 4).trans rfl, (blk_cell (blk_grown (blk_drew BP5.out) HG10.out NPV.out) 0).trans rfl, (blk_cell (blk_grown (blk_drew BP5.out) HG10.out NPV.out) 1).trans rfl, (blk_cell (blk_grown (blk_drew BP5.out) HG10.out NPV.out) 2).trans rfl, (blk_cell (blk_grown (blk_drew BP5.out) HG10.out NPV.out) 3).trans rfl, (blk_cell (blk_grown (blk_drew BP5.out) HG10.out NPV.out) 4).trans rfl⟩ (fun hHeld => ?_)
  clear hK K
  refine norm_ (a' := ?_) ?_ ?_
  rotate_left
  ·show Act.put _ (some 33) _ = _
   simp only [Act.put, sI_, s0_, sS_, i64_w, i32_w]
   rfl
  refine pv_ 8 34 (w_ 11 511) rfl ?_
  refine pv_ 9 35 (w_ 11 1023) rfl ?_
  refine last_ (i := 10) (N := none) (w_ 11 2047) rfl rfl (by kernel_rfl) (by decide) (fun K hK => ?_)
  refine skip_ (w1 := ?_) (by rfl) rfl ?_ ?_
  rotate_left
  ·go_simp
   rfl
  refine hK.out _ _ ?_
  clear hK K
  refine done_ (by kernel_rfl) ?_
  obtain ⟨W9, hW9⟩ : ∃ W9, W9 = w10.setCell ⟨g, 4, none⟩ (.slice A10 n10 c10) := ⟨_, rfl⟩
  rw [← hW9]
  have BG10 := mk_ (blk_grown (blk_drew BG5.out) HG10.out NGV.out)
  have NPG := mk_ (blk_ne BP5.out BG5.out (by decide))
  have NLG := mk_ (blk_ne BL5.out BG5.out (by decide))
  have BG9 := mk_ (show W9.heap[g]? = some (.cells #[.int .i64 b.last.n, .int .i64 b.last.s, .int .i64 b.last.d, .int .i64 b.last.fr, .slice A10 n10 c10, .bool b.bad] 59 (0, 0)) by rw [hW9]; exact blk_put BG10.out 4 _ rfl)
  have BP9 := mk_ (show W9.heap[g2]? = some (.cells #[.int .i64 p.f0, .int .i64 p.f1.f0, .int .i64 p.f1.f1, .int .i64 p.f2.f0, .int .i64 p.f2.f1] 51 (0, 0)) by rw [hW9]; exact blk_far (blk_grown (blk_drew BP5.out) HG10.out NPV.out) NPG.out _)
  have BL9 := mk_ (show W9.heap[g1]? = some (.cells #[.int .i64 l.n, .int .i64 l.s, .int .i64 l.d, .int .i64 l.fr] 54 (0, 0)) by rw [hW9]; exact blk_far (blk_grown (blk_drew BL5.out) HG10.out NLV.out) NLG.out _)
  have HR9 := mk_ (show Kd.R k51 51 W9 n0 (fun k => True ∧ k ≠ g) (.slice A10 n10 c10) (b.out ++ [p]) by rw [hW9]; exact Kd.R_far (Kd.R_types HO10.out BG10.out (by decide)) (fun _ hk => hk.2) _)
  have HK9 := mk_ (show KeepBut w W9 g (Value.slice Av nv cv).ownBlock by rw [hW9]; exact KeepBut.set_ ((keep_drew (KeepBut.of_below HB5.out g _)).trans (KeepBut.of_grown HG10.out g) (.inl rfl)) 4 _)
  have HN9 := mk_ (show Below n0 w W9 by rw [hW9]; exact Below.setCell HB10.out (p := ⟨g, 4, none⟩) hn _)
  clear hW9
  have h90 : W9.cell? ⟨g, 5, none⟩ = some (.bool b.bad) := (blk_cell BG9.out 5).trans rfl
  have h91 : W9.cell? ⟨g2, 0, none⟩ = some (.int .i64 p.f0) := (blk_cell BP9.out 0).trans rfl
  have h92 : W9.cell? ⟨g2, 1, none⟩ = some (.int .i64 p.f1.f0) := (blk_cell BP9.out 1).trans rfl
  have h93 : W9.cell? ⟨g2, 2, none⟩ = some (.int .i64 p.f1.f1) := (blk_cell BP9.out 2).trans rfl
  have h94 : W9.cell? ⟨g2, 3, none⟩ = some (.int .i64 p.f2.f0) := (blk_cell BP9.out 3).trans rfl
  have h95 : W9.cell? ⟨g2, 4, none⟩ = some (.int .i64 p.f2.f1) := (blk_cell BP9.out 4).trans rfl
  have h96 := blk_frozen BG9.out 5
  have HN9' := mk_ (show n0 ≤ W9.heap.size from Nat.le_trans HN0.out HK9.out.1)
  clear HG10 HO10 BG10 HB10 BG5 BP5 BL5 HB5 hf10 hHeld HR5
  cases hbb : b.bad with
  | true =>
   rw [hbb] at h90
   go_upto_region 5 with (fail)
   obtain ⟨WE, hWE⟩ : ∃ WE, WE = W9.setCell ⟨g, 5, none⟩ (.bool true) := ⟨_, rfl⟩
   rw [← hWE]
   have BGE := mk_ (show WE.heap[g]? = some (.cells #[.int .i64 b.last.n, .int .i64 b.last.s, .int .i64 b.last.d, .int .i64 b.last.fr, .slice A10 n10 c10, .bool true] 59 (0, 0)) by rw [hWE]; exact blk_put BG9.out 5 _ rfl)
   have BLE := mk_ (show WE.heap[g1]? = some (.cells #[.int .i64 l.n, .int .i64 l.s, .int .i64 l.d, .int .i64 l.fr] 54 (0, 0)) by rw [hWE]; exact blk_far (p := ⟨g, 5, none⟩) BL9.out NLG.out _)
   have HRE := mk_ (show Kd.R k51 51 WE n0 (fun k => True ∧ k ≠ g) (.slice A10 n10 c10) (b.out ++ [p]) by rw [hWE]; exact Kd.R_far HR9.out (fun _ hk => hk.2) _)
   have HKE := mk_ (show KeepBut w WE g (Value.slice Av nv cv).ownBlock by rw [hWE]; exact KeepBut.set_ HK9.out 5 _)
   have HNE := mk_ (show Below n0 w WE by rw [hWE]; exact Below.setCell HN9.out (p := ⟨g, 5, none⟩) hn _)
   clear hWE h90 h91 h92 h93 h94 h95 h96
   have e50 : WE.cell? ⟨g1, 0, none⟩ = some (.int .i64 l.n) := (blk_cell BLE.out 0).trans rfl
   have e51 : WE.cell? ⟨g1, 1, none⟩ = some (.int .i64 l.s) := (blk_cell BLE.out 1).trans rfl
   have e52 : WE.cell? ⟨g1, 2, none⟩ = some (.int .i64 l.d) := (blk_cell BLE.out 2).trans rfl
   have e53 : WE.cell? ⟨g1, 3, none⟩ = some (.int .i64 l.fr) := (blk_cell BLE.out 3).trans rfl
   have f50 := blk_frozen BGE.out 0
   have f51 := blk_frozen BGE.out 1
   have f52 := blk_frozen BGE.out 2
   have f53 := blk_frozen BGE.out 3
   have e60 : WE.cell? ⟨g, 0, none⟩ = some (.int .i64 b.last.n) := (blk_cell BGE.out 0).trans rfl
   have e61 : WE.cell? ⟨g, 1, none⟩ = some (.int .i64 b.last.s) := (blk_cell BGE.out 1).trans rfl
   have e62 : WE.cell? ⟨g, 2, none⟩ = some (.int .i64 b.last.d) := (blk_cell BGE.out 2).trans rfl
   have e63 : WE.cell? ⟨g, 3, none⟩ = some (.int .i64 b.last.fr) := (blk_cell BGE.out 3).trans rfl
   go_wp2_with (fail)
   go_end0
   refine ⟨⟨_, rfl⟩, put_end HG.out HR.out (Below.setCell (Below.setCell (Below.setCell (Below.setCell HNE.out (p := ⟨g, 0, none⟩) hn _) (p := ⟨g, 1, none⟩) hn _) (p := ⟨g, 2, none⟩) hn _) (p := ⟨g, 3, none⟩) hn _) (KeepBut.set_ (KeepBut.set_ (KeepBut.set_ (KeepBut.set_ HKE.out 0 _) 1 _) 2 _) 3 _) ⟨(blk_put (blk_put (blk_put (blk_put BGE.out 0 _ rfl) 1 _ rfl) 2 _ rfl) 3 _ rfl).trans ?_, Kd.R_mono (Kd.R_far (p := ⟨g, 3, none⟩) (Kd.R_far (p := ⟨g, 2, none⟩) (Kd.R_far (p := ⟨g, 1, none⟩) (Kd.R_far (p := ⟨g, 0, none⟩) HRE.out (fun _ hk => hk.2) _) (fun _ hk => hk.2) _) (fun _ hk => hk.2) _) (fun _ hk => hk.2) _) (fun _ _ => trivial)⟩⟩
   first | rfl | (simp [hbb]; done) | (simp; done)
  | false =>
   rw [hbb] at h90
   go_upto_region 5 with (first | (go_at_call 38; (with_reducible refine (numB_calls p ok _ HOK.out).mono ?_); rintro e W10 ⟨rfl, hb_⟩; have BG9 := mk_ (blk_below BG9.out hb_); have BL9 := mk_ (blk_below BL9.out hb_); have HR9 := mk_ (Kd.R_below HR9.out hb_); have HK9 := mk_ (HK9.out.trans (KeepBut.of_below hb_ g _) (.inl rfl)); have HN9 := mk_ (below_then HN9.out HN9'.out hb_); have h97 := blk_frozen BG9.out 5; have h98 : W10.cell? ⟨g, 5, none⟩ = some (.bool b.bad) := (blk_cell BG9.out 5).trans rfl; clear hb_))
   obtain ⟨WE, hWE⟩ : ∃ WE, WE = W10.setCell ⟨g, 5, none⟩ (.bool (!ok)) := ⟨_, rfl⟩
   rw [← hWE]
   have BGE := mk_ (show WE.heap[g]? = some (.cells #[.int .i64 b.last.n, .int .i64 b.last.s, .int .i64 b.last.d, .int .i64 b.last.fr, .slice A10 n10 c10, .bool (!ok)] 59 (0, 0)) by rw [hWE]; exact blk_put BG9.out 5 _ rfl)
   have BLE := mk_ (show WE.heap[g1]? = some (.cells #[.int .i64 l.n, .int .i64 l.s, .int .i64 l.d, .int .i64 l.fr] 54 (0, 0)) by rw [hWE]; exact blk_far (p := ⟨g, 5, none⟩) BL9.out NLG.out _)
   have HRE := mk_ (show Kd.R k51 51 WE n0 (fun k => True ∧ k ≠ g) (.slice A10 n10 c10) (b.out ++ [p]) by rw [hWE]; exact Kd.R_far HR9.out (fun _ hk => hk.2) _)
   have HKE := mk_ (show KeepBut w WE g (Value.slice Av nv cv).ownBlock by rw [hWE]; exact KeepBut.set_ HK9.out 5 _)
   have HNE := mk_ (show Below n0 w WE by rw [hWE]; exact Below.setCell HN9.out (p := ⟨g, 5, none⟩) hn _)
   clear hWE h90 h91 h92 h93 h94 h95 h96 h97 h98
   have e50 : WE.cell? ⟨g1, 0, none⟩ = some (.int .i64 l.n) := (blk_cell BLE.out 0).trans rfl
   have e51 : WE.cell? ⟨g1, 1, none⟩ = some (.int .i64 l.s) := (blk_cell BLE.out 1).trans rfl
   have e52 : WE.cell? ⟨g1, 2, none⟩ = some (.int .i64 l.d) := (blk_cell BLE.out 2).trans rfl
   have e53 : WE.cell? ⟨g1, 3, none⟩ = some (.int .i64 l.fr) := (blk_cell BLE.out 3).trans rfl
   have f50 := blk_frozen BGE.out 0
   have f51 := blk_frozen BGE.out 1
   have f52 := blk_frozen BGE.out 2
   have f53 := blk_frozen BGE.out 3
   have e60 : WE.cell? ⟨g, 0, none⟩ = some (.int .i64 b.last.n) := (blk_cell BGE.out 0).trans rfl
   have e61 : WE.cell? ⟨g, 1, none⟩ = some (.int .i64 b.last.s) := (blk_cell BGE.out 1).trans rfl
   have e62 : WE.cell? ⟨g, 2, none⟩ = some (.int .i64 b.last.d) := (blk_cell BGE.out 2).trans rfl
   have e63 : WE.cell? ⟨g, 3, none⟩ = some (.int .i64 b.last.fr) := (blk_cell BGE.out 3).trans rfl
   go_wp2_with (fail)
   go_end0
   refine ⟨⟨_, rfl⟩, put_end HG.out HR.out (Below.setCell (Below.setCell (Below.setCell (Below.setCell HNE.out (p := ⟨g, 0, none⟩) hn _) (p := ⟨g, 1, none⟩) hn _) (p := ⟨g, 2, none⟩) hn _) (p := ⟨g, 3, none⟩) hn _) (KeepBut.set_ (KeepBut.set_ (KeepBut.set_ (KeepBut.set_ HKE.out 0 _) 1 _) 2 _) 3 _) ⟨(blk_put (blk_put (blk_put (blk_put BGE.out 0 _ rfl) 1 _ rfl) 2 _ rfl) 3 _ rfl).trans ?_, Kd.R_mono (Kd.R_far (p := ⟨g, 3, none⟩) (Kd.R_far (p := ⟨g, 2, none⟩) (Kd.R_far (p := ⟨g, 1, none⟩) (Kd.R_far (p := ⟨g, 0, none⟩) HRE.out (fun _ hk => hk.2) _) (fun _ hk => hk.2) _) (fun _ hk => hk.2) _) (fun _ hk => hk.2) _) (fun _ _ => trivial)⟩⟩
   first | rfl | (simp [hbb]; done) | (simp; done)
 ·rw [if_neg hz] at h
  obtain ⟨q, hq, h⟩ := Option.bind_eq_some_iff.1 h
  have HQ := mk_ hq
  have z1 : ((nv : Int) == 0) = false := beq_eq_false_iff_ne.2 (by have := HNV.out; omega)
  have z2 : (nv == 0) = false := beq_eq_false_iff_ne.2 (by have := HNV.out; omega)
  clear hq
  refine start_ (n := 16) (S := fun w' => w'.cell? ⟨g, 4, none⟩ = some (.slice Av nv cv) ∧ w'.cell? ⟨g, 0, none⟩ = some (.int .i64 b.last.n) ∧ w'.cell? ⟨g, 1, none⟩ = some (.int .i64 b.last.s) ∧ w'.cell? ⟨g, 2, none⟩ = some (.int .i64 b.last.d) ∧ w'.cell? ⟨g, 3, none⟩ = some (.int .i64 b.last.fr) ∧ w'.cell? ⟨g2, 0, none⟩ = some (.int .i64 p.f0) ∧ w'.cell? ⟨g2, 1, none⟩ = some (.int .i64 p.f1.f0) ∧ w'.cell? ⟨g2, 2, none⟩ = some (.int .i64 p.f1.f1) ∧ w'.cell? ⟨g2, 3, none⟩ = some (.int .i64 p.f2.f0) ∧ w'.cell? ⟨g2, 4, none⟩ = some (.int .i64 p.f2.f1)) (ds := []) #[n_, n_, n_, n_, n_, n_, n_, n_, n_, n_, n_, n_, n_, n_, n_, n_] (by kernel_rfl) rfl rfl ⟨(blk_cell (show w4.drew.heap[g]? = _ from BG4.out) 4).trans rfl, (blk_cell (show w4.drew.heap[g]? = _ from BG4.out) 0).trans rfl, (blk_cell (show w4.drew.heap[g]? = _ from BG4.out) 1).trans rfl, (blk_cell (show w4.drew.heap[g]? = _ from BG4.out) 2).trans rfl, (blk_cell (show w4.drew.heap[g]? = _ from BG4.out) 3).trans rfl, (blk_cell (show w4.drew.heap[g2]? = _ from BP4.out) 0).trans rfl, (blk_cell (show w4.drew.heap[g2]? = _ from BP4.out) 1).trans rfl, (blk_cell (show w4.drew.heap[g2]? = _ from BP4.out) 2).trans rfl, (blk_cell (show w4.drew.heap[g2]? = _ from BP4.out) 3).trans rfl, (blk_cell (show w4.drew.heap[g2]? = _ from BP4.out) 4).trans rfl⟩ (fun hHeld => ?_)
  refine pv_ 0 10 (w_ 16 1) rfl ?_
  refine pv_ 1 11 (w_ 16 3) rfl ?_
  refine pv_ 2 12 (w_ 16 7) rfl ?_
  refine tb_ 3 13 (w_ 16 15) rfl hHeld (by rintro w' ⟨s0, s1, s2, s3, s4, s5, s6, s7, s8, s9⟩; go_simp; with_reducible rfl) ?_
  refine pv_ 4 14 (w_ 16 31) rfl ?_
  refine pv_ 5 15 (w_ 16 63) rfl ?_
  refine pv_ 6 16 (w_ 16 127) rfl ?_
  refine pv_ 8 18 (w_ 16 383) rfl ?_
  refine pv_ 9 19 (w_ 16 895) rfl ?_
  refine pv_ 10 20 (w_ 16 1919) rfl ?_
  refine pv_ 12 22 (w_ 16 6015) rfl ?_
  refine tb_ 7 17 (w_ 16 6143) rfl hHeld (by rintro w' ⟨s0, s1, s2, s3, s4, s5, s6, s7, s8, s9⟩; go_simp; with_reducible rfl) ?_
  refine tb_ 11 21 (w_ 16 8191) rfl hHeld (by rintro w' ⟨s0, s1, s2, s3, s4, s5, s6, s7, s8, s9⟩; go_simp; with_reducible rfl) ?_
  refine one_ (i := 13) (N := some 23) (w_ 16 16383) rfl rfl (by kernel_rfl) (by decide) (fun K hK => ?_)
  refine goes_ Try.func47 (by kernel_rfl) rfl #[.agg #[.int .i64 b.last.n, .int .i64 b.last.s, .int .i64 b.last.d, .int .i64 b.last.fr], .int .i64 x] (by rfl) rfl rfl (by simp only [List.map_toArray, List.map_cons, List.map_nil]; rfl) ?_
  with_reducible refine (pieceO_calls k b.last x q _ HQ.out).mono ?_
  rintro e W5 ⟨rfl, hb_⟩
  refine ⟨_, rfl, ?_⟩
  have BG5 := mk_ (blk_below (show w4.drew.heap[g]? = _ from BG4.out) hb_)
  have BP5 := mk_ (blk_below (show w4.drew.heap[g2]? = _ from BP4.out) hb_)
  have BL5 := mk_ (blk_below (show w4.drew.heap[g1]? = _ from BL4.out) hb_)
  have HB5 := mk_ (below_step (below_drew HB4.out) hb_)
  clear hb_
  refine hK.out _ _ ⟨(blk_cell (BG5.out) 4).trans rfl, (blk_cell (BG5.out) 0).trans rfl, (blk_cell (BG5.out) 1).trans rfl, (blk_cell (BG5.out) 2).trans rfl, (blk_cell (BG5.out) 3).trans rfl, (blk_cell (BP5.out) 0).trans rfl, (blk_cell (BP5.out) 1).trans rfl, (blk_cell (BP5.out) 2).trans rfl, (blk_cell (BP5.out) 3).trans rfl, (blk_cell (BP5.out) 4).trans rfl⟩ (fun hHeld => ?_)
  clear hK K
  refine norm_ (a' := ?_) ?_ ?_
  rotate_left
  ·show Act.put _ (some 23) _ = _
   simp only [Act.put, sI_, s0_, sS_, i64_w, i32_w]
   rfl
  refine pv_ 14 24 (w_ 16 32767) rfl ?_
  refine pv_ 15 25 (w_ 16 65535) rfl ?_
  refine done_ (by kernel_rfl) ?_
  cases he : eqP p q with
  | true =>
   rw [he, if_pos rfl] at h
   obtain rfl := Option.some.inj h
   have hne_ := (neP p q).trans (show (!eqP p q) = false by rw [he]; rfl)
   rw [hne_]
   clear hne_ he h
   have HR5 := mk_ (Kd.R_types (Kd.R_below HR.out HB5.out) BG5.out (by decide))
   go_upto_region 5 with (fail)
   obtain ⟨WE, hWE⟩ : ∃ WE, WE = W5 := ⟨_, rfl⟩
   rw [← hWE] at BG5 BL5 HR5 HB5 ⊢
   have BGE := BG5
   have BLE := BL5
   have HRE := HR5
   have HKE := mk_ (KeepBut.of_below HB5.out g (Value.slice Av nv cv).ownBlock)
   have HNE := mk_ (HB5.out.mono HN0.out)
   clear hWE BG5 BL5 HR5 HB5 BP5
   have e50 : WE.cell? ⟨g1, 0, none⟩ = some (.int .i64 l.n) := (blk_cell BLE.out 0).trans rfl
   have e51 : WE.cell? ⟨g1, 1, none⟩ = some (.int .i64 l.s) := (blk_cell BLE.out 1).trans rfl
   have e52 : WE.cell? ⟨g1, 2, none⟩ = some (.int .i64 l.d) := (blk_cell BLE.out 2).trans rfl
   have e53 : WE.cell? ⟨g1, 3, none⟩ = some (.int .i64 l.fr) := (blk_cell BLE.out 3).trans rfl
   have f50 := blk_frozen BGE.out 0
   have f51 := blk_frozen BGE.out 1
   have f52 := blk_frozen BGE.out 2
   have f53 := blk_frozen BGE.out 3
   have e60 : WE.cell? ⟨g, 0, none⟩ = some (.int .i64 b.last.n) := (blk_cell BGE.out 0).trans rfl
   have e61 : WE.cell? ⟨g, 1, none⟩ = some (.int .i64 b.last.s) := (blk_cell BGE.out 1).trans rfl
   have e62 : WE.cell? ⟨g, 2, none⟩ = some (.int .i64 b.last.d) := (blk_cell BGE.out 2).trans rfl
   have e63 : WE.cell? ⟨g, 3, none⟩ = some (.int .i64 b.last.fr) := (blk_cell BGE.out 3).trans rfl
   go_wp2_with (fail)
   go_end0
   refine ⟨⟨_, rfl⟩, put_end HG.out HR.out (Below.setCell (Below.setCell (Below.setCell (Below.setCell HNE.out (p := ⟨g, 0, none⟩) hn _) (p := ⟨g, 1, none⟩) hn _) (p := ⟨g, 2, none⟩) hn _) (p := ⟨g, 3, none⟩) hn _) (KeepBut.set_ (KeepBut.set_ (KeepBut.set_ (KeepBut.set_ HKE.out 0 _) 1 _) 2 _) 3 _) ⟨(blk_put (blk_put (blk_put (blk_put BGE.out 0 _ rfl) 1 _ rfl) 2 _ rfl) 3 _ rfl).trans ?_, Kd.R_mono (Kd.R_far (p := ⟨g, 3, none⟩) (Kd.R_far (p := ⟨g, 2, none⟩) (Kd.R_far (p := ⟨g, 1, none⟩) (Kd.R_far (p := ⟨g, 0, none⟩) HRE.out (fun _ hk => hk.2) _) (fun _ hk => hk.2) _) (fun _ hk => hk.2) _) (fun _ hk => hk.2) _) (fun _ _ => trivial)⟩⟩
   first | rfl | (simp [hbb]; done) | (simp; done)
  | false =>
   rw [he, if_neg (by decide)] at h
   obtain ⟨ok, hok, h⟩ := Option.bind_eq_some_iff.1 h
   obtain rfl := Option.some.inj h
   have HOK := mk_ hok
   clear h hok
   have hne_ := (neP p q).trans (show (!eqP p q) = true by rw [he]; rfl)
   rw [hne_]
   clear hne_ he
   have NGV := mk_ (Kd.R_ne HR.out HG.out (by decide))
   have NPV := mk_ (show some g2 ≠ (Value.slice Av nv cv).ownBlock from fun e => by have := Kd.R_lt HR.out g2 e.symm; have := GP.out; omega)
   have NLV := mk_ (show some g1 ≠ (Value.slice Av nv cv).ownBlock from fun e => by have := Kd.R_lt HR.out g1 e.symm; have := GL.out; omega)
   have HR5 := mk_ (Kd.R_drew (Kd.R_below HR.out HB5.out))
   go_wp2_with (fail)
   refine start_ (n := 11) (S := fun w' => w'.cell? ⟨g, 4, none⟩ = some (.slice Av nv cv) ∧ w'.cell? ⟨g2, 0, none⟩ = some (.int .i64 p.f0) ∧ w'.cell? ⟨g2, 1, none⟩ = some (.int .i64 p.f1.f0) ∧ w'.cell? ⟨g2, 2, none⟩ = some (.int .i64 p.f1.f1) ∧ w'.cell? ⟨g2, 3, none⟩ = some (.int .i64 p.f2.f0) ∧ w'.cell? ⟨g2, 4, none⟩ = some (.int .i64 p.f2.f1)) (ds := [10]) #[n_, n_, n_, n_, n_, n_, n_, n_, n_, n_, n_] (by kernel_rfl) rfl rfl ⟨(blk_cell (show W5.drew.heap[g]? = _ from BG5.out) 4).trans rfl, (blk_cell (show W5.drew.heap[g2]? = _ from BP5.out) 0).trans rfl, (blk_cell (show W5.drew.heap[g2]? = _ from BP5.out) 1).trans rfl, (blk_cell (show W5.drew.heap[g2]? = _ from BP5.out) 2).trans rfl, (blk_cell (show W5.drew.heap[g2]? = _ from BP5.out) 3).trans rfl, (blk_cell (show W5.drew.heap[g2]? = _ from BP5.out) 4).trans rfl⟩ (fun hHeld => ?_)
   refine pv_ 0 26 (w_ 11 1) rfl ?_
   refine pv_ 1 27 (w_ 11 3) rfl ?_
   refine pv_ 2 28 (w_ 11 7) rfl ?_
   refine pv_ 3 29 (w_ 11 15) rfl ?_
   refine tb_ 4 30 (w_ 11 31) rfl hHeld (by rintro w' ⟨s0, s1, s2, s3, s4, s5⟩; go_simp; with_reducible rfl) ?_
   refine tb_ 5 31 (w_ 11 63) rfl hHeld (by rintro w' ⟨s0, s1, s2, s3, s4, s5⟩; go_simp; with_reducible rfl) ?_
   refine one_ (i := 6) (N := some 32) (w_ 11 127) rfl rfl (by kernel_rfl) (by decide) (fun K hK => ?_)
   refine value_ (w1 := ?_) (v := ?_) (by rfl) rfl ?_ ?_
   rotate_left 2
   ·go_simp
    constructor
    ·rfl
    ·rfl
   refine hK.out _ _ ⟨(World.cell?_alloc_lt _ _ _ (World.block_lt_of_cell? _ _ (hHeld.1))).trans (hHeld.1), (World.cell?_alloc_lt _ _ _ (World.block_lt_of_cell? _ _ (hHeld.2.1))).trans (hHeld.2.1), (World.cell?_alloc_lt _ _ _ (World.block_lt_of_cell? _ _ (hHeld.2.2.1))).trans (hHeld.2.2.1), (World.cell?_alloc_lt _ _ _ (World.block_lt_of_cell? _ _ (hHeld.2.2.2.1))).trans (hHeld.2.2.2.1), (World.cell?_alloc_lt _ _ _ (World.block_lt_of_cell? _ _ (hHeld.2.2.2.2.1))).trans (hHeld.2.2.2.2.1), (World.cell?_alloc_lt _ _ _ (World.block_lt_of_cell? _ _ (hHeld.2.2.2.2.2))).trans (hHeld.2.2.2.2.2)⟩ (fun hHeld => ?_)
   clear hK K
   refine norm_ (a' := ?_) ?_ ?_
   rotate_left
   ·show Act.put _ (some 32) _ = _
    simp only [Act.put, sI_, s0_, sS_, i64_w, i32_w]
    rfl
   refine one_ (i := 7) (N := some 33) (w_ 11 255) rfl rfl (by kernel_rfl) (by decide) (fun K hK => ?_)
   refine Kd.R_append_step (W := W5.drew) k51 (w0 := w) n0 rfl (.tmp 30) (.tmp 32) 22 51 (.agg #[.int .i64 0, .int .i64 0, .int .i64 0, .int .i64 0, .int .i64 0]) 40 rfl Try.underlying22 info51 rfl (by decide) (by omega) (.slice Av nv cv) b.out p [.int .i64 p.f0, .int .i64 p.f1.f0, .int .i64 p.f1.f1, .int .i64 p.f2.f0, .int .i64 p.f2.f1] (fun _ => True) (fun _ => False) rfl rfl (k51_mkM _ _ _ p) (fun _ hk => hk.elim) (fun _ _ => trivial) HR5.out ((below_drew HB5.out).mono HN0.out) (Nat.le_trans HN0.out (below_size (below_drew HB5.out))) (by omega) ?_
   intro v10 w10 ho10 hb10 hg10 hat10
   obtain ⟨n10, hn10⟩ : ∃ n10, n10 = (b.out ++ [p]).length := ⟨_, rfl⟩
   obtain ⟨A10, c10, e10⟩ := Kd.R_slice ho10
   rw [← hn10] at e10
   subst e10
   have HO10 := mk_ ho10
   have HG10 := mk_ hg10
   have HB10 := mk_ hb10
   have hf10 := blk_frozen (blk_grown (blk_drew BG5.out) HG10.out NGV.out) 4
   clear ho10 hb10 hg10 hat10 hn10
   refine hK.out _ _ ⟨(blk_cell (blk_grown (blk_drew BG5.out) HG10.out NGV.out) 4).trans rfl, (blk_cell (blk_grown (blk_drew BP5.out) HG10.out NPV.out) 0).trans rfl, (blk_cell (blk_grown (blk_drew BP5.out) HG10.out NPV.out) 1).trans rfl, (blk_cell (blk_grown (blk_drew BP5.out) HG10.out NPV.out) 2).trans rfl, (blk_cell (blk_grown (blk_drew BP5.out) HG10.out NPV.out) 3).trans rfl, (blk_cell (blk_grown (blk_drew BP5.out) HG10.out NPV.out) 4).trans rfl⟩ (fun hHeld => ?_)
   clear hK K
   refine norm_ (a' := ?_) ?_ ?_
   rotate_left
   ·show Act.put _ (some 33) _ = _
    simp only [Act.put, sI_, s0_, sS_, i64_w, i32_w]
    rfl
   refine pv_ 8 34 (w_ 11 511) rfl ?_
   refine pv_ 9 35 (w_ 11 1023) rfl ?_
   refine last_ (i := 10) (N := none) (w_ 11 2047) rfl rfl (by kernel_rfl) (by decide) (fun K hK => ?_)
   refine skip_ (w1 := ?_) (by rfl) rfl ?_ ?_
   rotate_left
   ·go_simp
    rfl
   refine hK.out _ _ ?_
   clear hK K
   refine done_ (by kernel_rfl) ?_
   obtain ⟨W9, hW9⟩ : ∃ W9, W9 = w10.setCell ⟨g, 4, none⟩ (.slice A10 n10 c10) := ⟨_, rfl⟩
   rw [← hW9]
   have BG10 := mk_ (blk_grown (blk_drew BG5.out) HG10.out NGV.out)
   have NPG := mk_ (blk_ne BP5.out BG5.out (by decide))
   have NLG := mk_ (blk_ne BL5.out BG5.out (by decide))
   have BG9 := mk_ (show W9.heap[g]? = some (.cells #[.int .i64 b.last.n, .int .i64 b.last.s, .int .i64 b.last.d, .int .i64 b.last.fr, .slice A10 n10 c10, .bool b.bad] 59 (0, 0)) by rw [hW9]; exact blk_put BG10.out 4 _ rfl)
   have BP9 := mk_ (show W9.heap[g2]? = some (.cells #[.int .i64 p.f0, .int .i64 p.f1.f0, .int .i64 p.f1.f1, .int .i64 p.f2.f0, .int .i64 p.f2.f1] 51 (0, 0)) by rw [hW9]; exact blk_far (blk_grown (blk_drew BP5.out) HG10.out NPV.out) NPG.out _)
   have BL9 := mk_ (show W9.heap[g1]? = some (.cells #[.int .i64 l.n, .int .i64 l.s, .int .i64 l.d, .int .i64 l.fr] 54 (0, 0)) by rw [hW9]; exact blk_far (blk_grown (blk_drew BL5.out) HG10.out NLV.out) NLG.out _)
   have HR9 := mk_ (show Kd.R k51 51 W9 n0 (fun k => True ∧ k ≠ g) (.slice A10 n10 c10) (b.out ++ [p]) by rw [hW9]; exact Kd.R_far (Kd.R_types HO10.out BG10.out (by decide)) (fun _ hk => hk.2) _)
   have HK9 := mk_ (show KeepBut w W9 g (Value.slice Av nv cv).ownBlock by rw [hW9]; exact KeepBut.set_ ((keep_drew (KeepBut.of_below HB5.out g _)).trans (KeepBut.of_grown HG10.out g) (.inl rfl)) 4 _)
   have HN9 := mk_ (show Below n0 w W9 by rw [hW9]; exact Below.setCell HB10.out (p := ⟨g, 4, none⟩) hn _)
   clear hW9
   have h90 : W9.cell? ⟨g, 5, none⟩ = some (.bool b.bad) := (blk_cell BG9.out 5).trans rfl
   have h91 : W9.cell? ⟨g2, 0, none⟩ = some (.int .i64 p.f0) := (blk_cell BP9.out 0).trans rfl
   have h92 : W9.cell? ⟨g2, 1, none⟩ = some (.int .i64 p.f1.f0) := (blk_cell BP9.out 1).trans rfl
   have h93 : W9.cell? ⟨g2, 2, none⟩ = some (.int .i64 p.f1.f1) := (blk_cell BP9.out 2).trans rfl
   have h94 : W9.cell? ⟨g2, 3, none⟩ = some (.int .i64 p.f2.f0) := (blk_cell BP9.out 3).trans rfl
   have h95 : W9.cell? ⟨g2, 4, none⟩ = some (.int .i64 p.f2.f1) := (blk_cell BP9.out 4).trans rfl
   have h96 := blk_frozen BG9.out 5
   have HN9' := mk_ (show n0 ≤ W9.heap.size from Nat.le_trans HN0.out HK9.out.1)
   clear HG10 HO10 BG10 HB10 BG5 BP5 BL5 HB5 hf10 hHeld HR5
   cases hbb : b.bad with
   | true =>
    rw [hbb] at h90
    go_upto_region 5 with (fail)
    obtain ⟨WE, hWE⟩ : ∃ WE, WE = W9.setCell ⟨g, 5, none⟩ (.bool true) := ⟨_, rfl⟩
    rw [← hWE]
    have BGE := mk_ (show WE.heap[g]? = some (.cells #[.int .i64 b.last.n, .int .i64 b.last.s, .int .i64 b.last.d, .int .i64 b.last.fr, .slice A10 n10 c10, .bool true] 59 (0, 0)) by rw [hWE]; exact blk_put BG9.out 5 _ rfl)
    have BLE := mk_ (show WE.heap[g1]? = some (.cells #[.int .i64 l.n, .int .i64 l.s, .int .i64 l.d, .int .i64 l.fr] 54 (0, 0)) by rw [hWE]; exact blk_far (p := ⟨g, 5, none⟩) BL9.out NLG.out _)
    have HRE := mk_ (show Kd.R k51 51 WE n0 (fun k => True ∧ k ≠ g) (.slice A10 n10 c10) (b.out ++ [p]) by rw [hWE]; exact Kd.R_far HR9.out (fun _ hk => hk.2) _)
    have HKE := mk_ (show KeepBut w WE g (Value.slice Av nv cv).ownBlock by rw [hWE]; exact KeepBut.set_ HK9.out 5 _)
    have HNE := mk_ (show Below n0 w WE by rw [hWE]; exact Below.setCell HN9.out (p := ⟨g, 5, none⟩) hn _)
    clear hWE h90 h91 h92 h93 h94 h95 h96
    have e50 : WE.cell? ⟨g1, 0, none⟩ = some (.int .i64 l.n) := (blk_cell BLE.out 0).trans rfl
    have e51 : WE.cell? ⟨g1, 1, none⟩ = some (.int .i64 l.s) := (blk_cell BLE.out 1).trans rfl
    have e52 : WE.cell? ⟨g1, 2, none⟩ = some (.int .i64 l.d) := (blk_cell BLE.out 2).trans rfl
    have e53 : WE.cell? ⟨g1, 3, none⟩ = some (.int .i64 l.fr) := (blk_cell BLE.out 3).trans rfl
    have f50 := blk_frozen BGE.out 0
    have f51 := blk_frozen BGE.out 1
    have f52 := blk_frozen BGE.out 2
    have f53 := blk_frozen BGE.out 3
    have e60 : WE.cell? ⟨g, 0, none⟩ = some (.int .i64 b.last.n) := (blk_cell BGE.out 0).trans rfl
    have e61 : WE.cell? ⟨g, 1, none⟩ = some (.int .i64 b.last.s) := (blk_cell BGE.out 1).trans rfl
    have e62 : WE.cell? ⟨g, 2, none⟩ = some (.int .i64 b.last.d) := (blk_cell BGE.out 2).trans rfl
    have e63 : WE.cell? ⟨g, 3, none⟩ = some (.int .i64 b.last.fr) := (blk_cell BGE.out 3).trans rfl
    go_wp2_with (fail)
    go_end0
    refine ⟨⟨_, rfl⟩, put_end HG.out HR.out (Below.setCell (Below.setCell (Below.setCell (Below.setCell HNE.out (p := ⟨g, 0, none⟩) hn _) (p := ⟨g, 1, none⟩) hn _) (p := ⟨g, 2, none⟩) hn _) (p := ⟨g, 3, none⟩) hn _) (KeepBut.set_ (KeepBut.set_ (KeepBut.set_ (KeepBut.set_ HKE.out 0 _) 1 _) 2 _) 3 _) ⟨(blk_put (blk_put (blk_put (blk_put BGE.out 0 _ rfl) 1 _ rfl) 2 _ rfl) 3 _ rfl).trans ?_, Kd.R_mono (Kd.R_far (p := ⟨g, 3, none⟩) (Kd.R_far (p := ⟨g, 2, none⟩) (Kd.R_far (p := ⟨g, 1, none⟩) (Kd.R_far (p := ⟨g, 0, none⟩) HRE.out (fun _ hk => hk.2) _) (fun _ hk => hk.2) _) (fun _ hk => hk.2) _) (fun _ hk => hk.2) _) (fun _ _ => trivial)⟩⟩
    first | rfl | (simp [hbb]; done) | (simp; done)
   | false =>
    rw [hbb] at h90
    go_upto_region 5 with (first | (go_at_call 38; (with_reducible refine (numB_calls p ok _ HOK.out).mono ?_); rintro e W10 ⟨rfl, hb_⟩; have BG9 := mk_ (blk_below BG9.out hb_); have BL9 := mk_ (blk_below BL9.out hb_); have HR9 := mk_ (Kd.R_below HR9.out hb_); have HK9 := mk_ (HK9.out.trans (KeepBut.of_below hb_ g _) (.inl rfl)); have HN9 := mk_ (below_then HN9.out HN9'.out hb_); have h97 := blk_frozen BG9.out 5; have h98 : W10.cell? ⟨g, 5, none⟩ = some (.bool b.bad) := (blk_cell BG9.out 5).trans rfl; clear hb_))
    obtain ⟨WE, hWE⟩ : ∃ WE, WE = W10.setCell ⟨g, 5, none⟩ (.bool (!ok)) := ⟨_, rfl⟩
    rw [← hWE]
    have BGE := mk_ (show WE.heap[g]? = some (.cells #[.int .i64 b.last.n, .int .i64 b.last.s, .int .i64 b.last.d, .int .i64 b.last.fr, .slice A10 n10 c10, .bool (!ok)] 59 (0, 0)) by rw [hWE]; exact blk_put BG9.out 5 _ rfl)
    have BLE := mk_ (show WE.heap[g1]? = some (.cells #[.int .i64 l.n, .int .i64 l.s, .int .i64 l.d, .int .i64 l.fr] 54 (0, 0)) by rw [hWE]; exact blk_far (p := ⟨g, 5, none⟩) BL9.out NLG.out _)
    have HRE := mk_ (show Kd.R k51 51 WE n0 (fun k => True ∧ k ≠ g) (.slice A10 n10 c10) (b.out ++ [p]) by rw [hWE]; exact Kd.R_far HR9.out (fun _ hk => hk.2) _)
    have HKE := mk_ (show KeepBut w WE g (Value.slice Av nv cv).ownBlock by rw [hWE]; exact KeepBut.set_ HK9.out 5 _)
    have HNE := mk_ (show Below n0 w WE by rw [hWE]; exact Below.setCell HN9.out (p := ⟨g, 5, none⟩) hn _)
    clear hWE h90 h91 h92 h93 h94 h95 h96 h97 h98
    have e50 : WE.cell? ⟨g1, 0, none⟩ = some (.int .i64 l.n) := (blk_cell BLE.out 0).trans rfl
    have e51 : WE.cell? ⟨g1, 1, none⟩ = some (.int .i64 l.s) := (blk_cell BLE.out 1).trans rfl
    have e52 : WE.cell? ⟨g1, 2, none⟩ = some (.int .i64 l.d) := (blk_cell BLE.out 2).trans rfl
    have e53 : WE.cell? ⟨g1, 3, none⟩ = some (.int .i64 l.fr) := (blk_cell BLE.out 3).trans rfl
    have f50 := blk_frozen BGE.out 0
    have f51 := blk_frozen BGE.out 1
    have f52 := blk_frozen BGE.out 2
    have f53 := blk_frozen BGE.out 3
    have e60 : WE.cell? ⟨g, 0, none⟩ = some (.int .i64 b.last.n) := (blk_cell BGE.out 0).trans rfl
    have e61 : WE.cell? ⟨g, 1, none⟩ = some (.int .i64 b.last.s) := (blk_cell BGE.out 1).trans rfl
    have e62 : WE.cell? ⟨g, 2, none⟩ = some (.int .i64 b.last.d) := (blk_cell BGE.out 2).trans rfl
    have e63 : WE.cell? ⟨g, 3, none⟩ = some (.int .i64 b.last.fr) := (blk_cell BGE.out 3).trans rfl
    go_wp2_with (fail)
    go_end0
    refine ⟨⟨_, rfl⟩, put_end HG.out HR.out (Below.setCell (Below.setCell (Below.setCell (Below.setCell HNE.out (p := ⟨g, 0, none⟩) hn _) (p := ⟨g, 1, none⟩) hn _) (p := ⟨g, 2, none⟩) hn _) (p := ⟨g, 3, none⟩) hn _) (KeepBut.set_ (KeepBut.set_ (KeepBut.set_ (KeepBut.set_ HKE.out 0 _) 1 _) 2 _) 3 _) ⟨(blk_put (blk_put (blk_put (blk_put BGE.out 0 _ rfl) 1 _ rfl) 2 _ rfl) 3 _ rfl).trans ?_, Kd.R_mono (Kd.R_far (p := ⟨g, 3, none⟩) (Kd.R_far (p := ⟨g, 2, none⟩) (Kd.R_far (p := ⟨g, 1, none⟩) (Kd.R_far (p := ⟨g, 0, none⟩) HRE.out (fun _ hk => hk.2) _) (fun _ hk => hk.2) _) (fun _ hk => hk.2) _) (fun _ hk => hk.2) _) (fun _ _ => trivial)⟩⟩
    first | rfl | (simp [hbb]; done) | (simp; done)
end
section
open Go.Proofs.YtmhimmodigeeiaaH
def resO (b : BD) : List S51 × Int := if b.bad = true then ([], 3) else if 64 < b.out.length then ([], 2) else (b.out, 0)
set_option maxHeartbeats 4000000 in
theorem result_calls (b : BD) (w : World) (n0 g : Nat) (v : Value) (hb : BdAt w n0 g b v) :
  Calls Try.prog 41 #[.pointer (some ⟨g, 0, none⟩)] w fun e w' => ∃ u : Value, e = .returned (.tuple #[u, .int .i64 (resO b).2]) ∧ Kd.R k51 51 w' n0 (fun _ => True) u (resO b).1 ∧ Below w.heap.size w w' := by
 have hu59 := Try.underlying59
 obtain ⟨hg, hR⟩ := hb
 obtain ⟨Av, cv, ev⟩ := Kd.R_slice hR
 obtain ⟨nv, hnv⟩ : ∃ nv, nv = b.out.length := ⟨_, rfl⟩
 rw [← hnv] at ev
 subst ev
 have HNV := mk_ hnv
 have HR := mk_ hR
 have h1 : w.cell? ⟨g, 5, none⟩ = some (.bool b.bad) := (blk_cell hg 5).trans rfl
 have h2 : w.cell? ⟨g, 4, none⟩ = some (.slice Av nv cv) := (blk_cell hg 4).trans rfl
 clear hnv hg hR
 cases hbb : b.bad with
 | true =>
  rw [hbb] at h1
  have e1 : resO b = ([], 3) := by simp [resO, hbb]
  rw [e1]
  clear e1 hbb
  go_enter Try.func41, Try.ntmps41
  go_wp2_with (fail)
  go_ret2
  exact ⟨.slice none 0 0, rfl, Kd.R_nil _ _ _ _ _, Below.refl _ _⟩
 | false =>
  rw [hbb] at h1
  by_cases hl : 64 < nv
  ·have e1 : resO b = ([], 2) := by simp [resO, hbb, ← HNV.out, hl]
   rw [e1]
   have d1 : decide ((64 : Int) < (nv : Int)) = true := decide_eq_true (by omega)
   have d2 : decide (64 < nv) = true := decide_eq_true hl
   clear e1 hbb
   go_enter Try.func41, Try.ntmps41
   go_wp2_with (fail)
   go_ret2
   exact ⟨.slice none 0 0, rfl, Kd.R_nil _ _ _ _ _, Below.refl _ _⟩
  ·have e1 : resO b = (b.out, 0) := by simp [resO, hbb, ← HNV.out, hl]
   rw [e1]
   have d1 : decide ((64 : Int) < (nv : Int)) = false := decide_eq_false (by omega)
   have d2 : decide (64 < nv) = false := decide_eq_false hl
   clear e1 hbb
   go_enter Try.func41, Try.ntmps41
   go_wp2_with (fail)
   go_ret2
   exact ⟨.slice Av nv cv, rfl, HR.out, Below.refl _ _⟩
end
end Go.Proofs.Ytmhimmodigeeiaa.P
end
