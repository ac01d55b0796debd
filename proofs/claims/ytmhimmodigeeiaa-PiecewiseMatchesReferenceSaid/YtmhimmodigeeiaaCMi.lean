/- Part 9 of the base that the seat's proofs share: words, walks and plain laws. -/
import Derived.Test.YtmhimmodigeeiaaCMh
set_option linter.unusedVariables false
set_option linter.unusedSimpArgs false
section
namespace Go.Proofs.Ytmhimmodigeeiaa.P
open Go.RowKit Go.Proofs.YtmhimmodigeeiaaW.PrintWords Go.Proofs.YtmhimmodigeeiaaW.PrintLast Go.Proofs.YtmhimmodigeeiaaW.PrintMore
attribute [local go_sem] max2_int min2_int max_two min_two max_three min_three max_four min_four
set_option linter.unusedVariables false
set_option linter.unusedSimpArgs false
set_option maxHeartbeats 8000000
set_option maxRecDepth 100000
section
def cohousingref05_taken.f (k : Nat) (a0_0 : Int) (a0_1 : Int) (a0_2 : Int) (a0_3 : Int) (a0_4 : Int) (a1_0 : Int) (a1_1 : Int) (a1_2 : Int) (a1_3 : Int) (a1_4 : Int) (a2 : Bool) (a3 : Int) : Option (Int × Int × Int × Int × Int) := if a2 = true then ((cohousingref05_Line.f k a0_0 a0_1 a0_2 a0_3 a0_4 a3).bind fun bt405 => (some (a3, bt405.1, bt405.2, a0_3, a0_4))) else ((cohousingref05_Line.f k a1_0 a1_1 a1_2 a1_3 a1_4 a3).bind fun bt407 => (some (a3, bt407.1, bt407.2, a1_3, a1_4)))
def cohousingref05_taken.T2 : Bool × List (List Nat × List Nat) := (true, [([], []), ([], []), ([], []), ([1, 2], [1, 2]), ([], []), ([4], [4]), ([0, 3, 5], [0, 3, 5]), ([6, 3, 0, 1, 2, 3, 4, 5, 6], [6])])
def cohousingref05_taken.B2 : List Nat := [0, 0, 0, 6, 0, 16, 63, 127]
theorem cohousingref05_taken.tab2 : rtab .any (opsOf Try.f52 2) = cohousingref05_taken.T2 := by kernel_rfl
theorem cohousingref05_taken.bits2 : waitsOk cohousingref05_taken.T2.2 cohousingref05_taken.B2 = true := by kernel_rfl
def cohousingref05_taken.T3 : Bool × List (List Nat × List Nat) := (true, [([], []), ([], []), ([], []), ([1, 2], [1, 2]), ([], []), ([4], [4]), ([0, 3, 5], [0, 3, 5]), ([6, 3, 0, 1, 2, 3, 4, 5, 6], [6])])
def cohousingref05_taken.B3 : List Nat := [0, 0, 0, 6, 0, 16, 63, 127]
theorem cohousingref05_taken.tab3 : rtab .any (opsOf Try.f52 3) = cohousingref05_taken.T3 := by kernel_rfl
theorem cohousingref05_taken.bits3 : waitsOk cohousingref05_taken.T3.2 cohousingref05_taken.B3 = true := by kernel_rfl
theorem cohousingref05_taken.calls (k : Nat) (a0_0 : Int) (a0_1 : Int) (a0_2 : Int) (a0_3 : Int) (a0_4 : Int) (a1_0 : Int) (a1_1 : Int) (a1_2 : Int) (a1_3 : Int) (a1_4 : Int) (a2 : Bool) (a3 : Int) (r1 : Int) (r2 : Int) (r3 : Int) (r4 : Int) (r5 : Int) (w : World) (h : cohousingref05_taken.f k a0_0 a0_1 a0_2 a0_3 a0_4 a1_0 a1_1 a1_2 a1_3 a1_4 a2 a3 = some (r1, r2, r3, r4, r5)) :
  Calls Try.prog 52 #[.agg #[.int .i64 a0_0, .int .i64 a0_1, .int .i64 a0_2, .int .i64 a0_3, .int .i64 a0_4], .agg #[.int .i64 a1_0, .int .i64 a1_1, .int .i64 a1_2, .int .i64 a1_3, .int .i64 a1_4], .bool a2, .int .i64 a3] w fun e w' => e = .returned (.agg #[.int .i64 r1, .int .i64 r2, .int .i64 r3, .int .i64 r4, .int .i64 r5]) ∧ Below w.heap.size w w' := by
 have hu51 := Try.underlying51
 have hu24 := Try.underlying24
 have HB := mk_ (Below.refl w.heap.size w)
 have H : (if a2 = true then ((cohousingref05_Line.f k a0_0 a0_1 a0_2 a0_3 a0_4 a3).bind fun bt405 => (some (a3, bt405.1, bt405.2, a0_3, a0_4))) else ((cohousingref05_Line.f k a1_0 a1_1 a1_2 a1_3 a1_4 a3).bind fun bt407 => (some (a3, bt407.1, bt407.2, a1_3, a1_4)))) = some (r1, r2, r3, r4, r5) := h
 clear h
 by_cases c5 : a2 = true
 case' _ =>
  subst c5
  have H1 : ((cohousingref05_Line.f k a0_0 a0_1 a0_2 a0_3 a0_4 a3).bind fun bt405 => (some (a3, bt405.1, bt405.2, a0_3, a0_4))) = some (r1, r2, r3, r4, r5) := by rw [if_pos rfl] at H; exact H
  clear H
  have H := H1
  clear H1
  replace H := Option.bind_eq_some_iff.mp H
  obtain ⟨⟨t405, t406⟩, A60, H⟩ := H
  replace H : (some (a3, t405, t406, a0_3, a0_4)) = some (r1, r2, r3, r4, r5) := H
  have A6 := mk_ A60
  clear A60
  simp only [Option.some.injEq, Prod.mk.injEq] at H
  obtain ⟨rfl, rfl, rfl, rfl, rfl⟩ := H
  go_enter Try.func52, Try.ntmps52
 rotate_left
 case' _ =>
  replace c5 := Bool.eq_false_iff.mpr c5
  subst c5
  have H1 : ((cohousingref05_Line.f k a1_0 a1_1 a1_2 a1_3 a1_4 a3).bind fun bt407 => (some (a3, bt407.1, bt407.2, a1_3, a1_4))) = some (r1, r2, r3, r4, r5) := by rw [if_neg (show ¬ (false = true) by decide)] at H; exact H
  clear H
  have H := H1
  clear H1
  replace H := Option.bind_eq_some_iff.mp H
  obtain ⟨⟨t407, t408⟩, A170, H⟩ := H
  replace H : (some (a3, t407, t408, a1_3, a1_4)) = some (r1, r2, r3, r4, r5) := H
  have A17 := mk_ A170
  clear A170
  simp only [Option.some.injEq, Prod.mk.injEq] at H
  obtain ⟨rfl, rfl, rfl, rfl, rfl⟩ := H
  go_enter Try.func52, Try.ntmps52
 rotate_left
 all_goals try go_wp2_with (first | ((with_reducible refine gate_dst (N := 4) rfl ?_); refine box_event ?hg (N := 4) ?hd (cs := #[.int .i64 a0_0, .int .i64 a0_1, .int .i64 a0_2, .int .i64 a0_3, .int .i64 a0_4]) (t := 51) ?hr ?_; (case hd => rfl); (case hg => rfl); (case hr => first | (go_simp; done) | (go_simp; rfl)); intro gb402 hg w7 hbox hb; have BK402 := mk_ (hbox); have GW402 := mk_ (bz_ hg (bb_ HB)); have GE402 := mk_ (bz_ hg (bb_ HB)); replace HB := mk_ (below_step (bb_ HB) hb); clear hb hbox hg) | ((with_reducible refine gate_dst (N := 5) rfl ?_); refine box_event ?hg (N := 5) ?hd (cs := #[.int .i64 a1_0, .int .i64 a1_1, .int .i64 a1_2, .int .i64 a1_3, .int .i64 a1_4]) (t := 51) ?hr ?_; (case hd => rfl); (case hg => rfl); (case hr => first | (go_simp; done) | (go_simp; rfl)); intro gb403 hg w8 hbox hb; have BK403 := mk_ (hbox); have GW403 := mk_ (bz_ hg (bs_ HB GE402.out)); have GE403 := mk_ (bz_ hg (bs_ HB GE402.out)); replace HB := mk_ (below_step (bs_ HB GE402.out) hb); have NB402_403 := mk_ (bl_ hg (kk_ BK402)); have NB403_402 := mk_ (bg_ hg (kk_ BK402)); replace BK402 := mk_ (blk_below (kk_ BK402) hb); clear hb hbox hg) | ((with_reducible refine gate_dst (N := 8) rfl ?_); refine box_event ?hg (N := 8) ?hd (cs := #[.int .i64 0, .int .i64 0, .int .i64 0, .int .i64 0, .int .i64 0]) (t := 51) ?hr ?_; (case hd => rfl); (case hg => rfl); (case hr => first | (go_simp; done) | (go_simp; rfl)); intro gb404 hg w9 hbox hb; have BK404 := mk_ (hbox); have GW404 := mk_ (bz_ hg (bs2_ HB GE402 GE403)); have GE404 := mk_ (bz_ hg (bs2_ HB GE402 GE403)); replace HB := mk_ (below_step (bs2_ HB GE402 GE403) hb); have NB402_404 := mk_ (bl_ hg (kk_ BK402)); have NB404_402 := mk_ (bg_ hg (kk_ BK402)); replace BK402 := mk_ (blk_below (kk_ BK402) hb); have NB403_404 := mk_ (bl_ hg (kk_ BK403)); have NB404_403 := mk_ (bg_ hg (kk_ BK403)); replace BK403 := mk_ (blk_below (kk_ BK403) hb); clear hb hbox hg))
 ·have n0_ := mk_ (blk_drew BK402.out)
  have n1_ := mk_ (blk_drew BK403.out)
  have n2_ := mk_ (blk_drew BK404.out)
  have n3_ := mk_ (below_drew1 HB.out)
  clear BK402
  clear BK403
  clear BK404
  clear HB
  have BK402 := n0_
  have BK403 := n1_
  have BK404 := n2_
  have HB := n3_
  clear n0_ n1_ n2_ n3_
  refine start_ (n := 8) (S := fun w' => w'.cell? ⟨gb402, 0, none⟩ = some (.int .i64 a0_0) ∧ w'.cell? ⟨gb402, 1, none⟩ = some (.int .i64 a0_1) ∧ w'.cell? ⟨gb402, 2, none⟩ = some (.int .i64 a0_2) ∧ w'.cell? ⟨gb402, 3, none⟩ = some (.int .i64 a0_3) ∧ w'.cell? ⟨gb402, 4, none⟩ = some (.int .i64 a0_4)) (ds := []) #[n_, n_, n_, n_, n_, n_, n_, n_] (by kernel_rfl) rfl rfl ⟨(blk_cell BK402.out 0).trans rfl, (blk_cell BK402.out 1).trans rfl, (blk_cell BK402.out 2).trans rfl, (blk_cell BK402.out 3).trans rfl, (blk_cell BK402.out 4).trans rfl⟩ (fun hHeld => ?_); refine with_tabW cohousingref05_taken.tab2 cohousingref05_taken.bits2 (fun HT_ HW_ => ?_)
  generalize w9.drew = w10 at BK402 BK403 BK404 HB hHeld ⊢
  refine pu_ 0 10 (w_ 8 1) rfl HT_ ?_
  refine pu_ 2 12 (w_ 8 5) rfl HT_ ?_
  refine pu_ 4 14 (w_ 8 21) rfl HT_ ?_
  refine ta_ 1 11 (w_ 8 23) rfl HT_ HW_ hHeld (by rintro w' ⟨s0, s1, s2, s3, s4⟩; go_simp; with_reducible rfl) ?_
  refine ta_ 5 15 (w_ 8 55) rfl HT_ HW_ hHeld (by rintro w' ⟨s0, s1, s2, s3, s4⟩; go_simp; with_reducible rfl) ?_
  refine one_ (i := 3) (N := some 13) (w_ 8 63) rfl rfl (one_of HT_.out (by kernel_rfl)) (by decide) (fun K hK => ?_)
  refine goes_ Try.func44 (by kernel_rfl) rfl #[.agg #[.int .i64 a0_0, .int .i64 a0_1, .int .i64 a0_2, .int .i64 a0_3, .int .i64 a0_4], .int .i64 a3] (by rfl) rfl rfl (by (try simp only [List.map_toArray, List.map_cons, List.map_nil]); first | done | rfl | (simp only [List.length_drop, List.length_take]; rfl)) ?_
  with_reducible refine (cohousingref05_Line.calls k a0_0 a0_1 a0_2 a0_3 a0_4 a3 t405 t406 _ A6.out).mono ?_
  rintro e w11 ⟨rfl, hb⟩
  refine ⟨_, rfl, ?_⟩
  replace BK402 := mk_ (blk_below (kk_ BK402) hb)
  replace BK403 := mk_ (blk_below (kk_ BK403) hb)
  replace BK404 := mk_ (blk_below (kk_ BK404) hb)
  replace HB := mk_ (below_step (bs3_ HB GE402 GE403 GE404) hb)
  (try clear hb)
  refine hK.out _ _ ⟨(blk_cell BK402.out 0).trans rfl, (blk_cell BK402.out 1).trans rfl, (blk_cell BK402.out 2).trans rfl, (blk_cell BK402.out 3).trans rfl, (blk_cell BK402.out 4).trans rfl⟩ (fun hHeld => ?_)
  clear hK K
  refine norm_ (a' := ?_) ?_ ?_
  rotate_left
  ·show Act.put _ (some 13) _ = _
   simp only [Act.put, sI_, s0_, sS_, i64_w, i32_w]
   rfl
  refine pu_ 6 16 (w_ 8 127) rfl HT_ ?_
  refine one_ (i := 7) (N := none) (w_ 8 255) rfl rfl (one_of HT_.out (by kernel_rfl)) (by decide) (fun K hK => ?_)
  have hs12 : w11.cell? ⟨gb404, 0, none⟩ = some (.int .i64 0) := (blk_cell BK404.out 0).trans rfl
  have hfs12 := blk_frozen BK404.out 0
  have hns12_0 := NB402_404.out
  have hns12_1 := NB403_404.out
  have hms12_0 := NB404_402.out
  have hms12_1 := NB404_403.out
  have hs13 : w11.cell? ⟨gb404, 1, none⟩ = some (.int .i64 0) := (blk_cell BK404.out 1).trans rfl
  have hfs13 := blk_frozen BK404.out 1
  have hns13_0 := NB402_404.out
  have hns13_1 := NB403_404.out
  have hms13_0 := NB404_402.out
  have hms13_1 := NB404_403.out
  have hs14 : w11.cell? ⟨gb404, 2, none⟩ = some (.int .i64 0) := (blk_cell BK404.out 2).trans rfl
  have hfs14 := blk_frozen BK404.out 2
  have hns14_0 := NB402_404.out
  have hns14_1 := NB403_404.out
  have hms14_0 := NB404_402.out
  have hms14_1 := NB404_403.out
  have hs15 : w11.cell? ⟨gb404, 3, none⟩ = some (.int .i64 0) := (blk_cell BK404.out 3).trans rfl
  have hfs15 := blk_frozen BK404.out 3
  have hns15_0 := NB402_404.out
  have hns15_1 := NB403_404.out
  have hms15_0 := NB404_402.out
  have hms15_1 := NB404_403.out
  have hs16 : w11.cell? ⟨gb404, 4, none⟩ = some (.int .i64 0) := (blk_cell BK404.out 4).trans rfl
  have hfs16 := blk_frozen BK404.out 4
  have hns16_0 := NB402_404.out
  have hns16_1 := NB403_404.out
  have hms16_0 := NB404_402.out
  have hms16_1 := NB404_403.out
  refine skip_ (w1 := ?_) (by rfl) rfl ?_ ?_
  rotate_left
  ·go_simp
   rfl
  refine hK.out _ _ ⟨((cell_far (p := ⟨gb404, _, none⟩) NB402_404.out _).trans (((cell_far (p := ⟨gb404, _, none⟩) NB402_404.out _).trans (((cell_far (p := ⟨gb404, _, none⟩) NB402_404.out _).trans (((cell_far (p := ⟨gb404, _, none⟩) NB402_404.out _).trans (((cell_far (p := ⟨gb404, _, none⟩) NB402_404.out _).trans (hHeld.1)))))))))), ((cell_far (p := ⟨gb404, _, none⟩) NB402_404.out _).trans (((cell_far (p := ⟨gb404, _, none⟩) NB402_404.out _).trans (((cell_far (p := ⟨gb404, _, none⟩) NB402_404.out _).trans (((cell_far (p := ⟨gb404, _, none⟩) NB402_404.out _).trans (((cell_far (p := ⟨gb404, _, none⟩) NB402_404.out _).trans (hHeld.2.1)))))))))), ((cell_far (p := ⟨gb404, _, none⟩) NB402_404.out _).trans (((cell_far (p := ⟨gb404, _, none⟩) NB402_404.out _).trans (((cell_far (p := ⟨gb404, _, none⟩) NB402_404.out _).trans (((cell_far (p := ⟨gb404, _, none⟩) NB402_404.out _).trans (((cell_far (p := ⟨gb404, _, none⟩) NB402_404.out _).trans (hHeld.2.2.1)))))))))), ((cell_far (p := ⟨gb404, _, none⟩) NB402_404.out _).trans (((cell_far (p := ⟨gb404, _, none⟩) NB402_404.out _).trans (((cell_far (p := ⟨gb404, _, none⟩) NB402_404.out _).trans (((cell_far (p := ⟨gb404, _, none⟩) NB402_404.out _).trans (((cell_far (p := ⟨gb404, _, none⟩) NB402_404.out _).trans (hHeld.2.2.2.1)))))))))), ((cell_far (p := ⟨gb404, _, none⟩) NB402_404.out _).trans (((cell_far (p := ⟨gb404, _, none⟩) NB402_404.out _).trans (((cell_far (p := ⟨gb404, _, none⟩) NB402_404.out _).trans (((cell_far (p := ⟨gb404, _, none⟩) NB402_404.out _).trans (((cell_far (p := ⟨gb404, _, none⟩) NB402_404.out _).trans (hHeld.2.2.2.2))))))))))⟩ (fun hHeld => ?_)
  clear hK K
  refine done_ (done_of HT_.out (by kernel_rfl)) ?_
  try go_wp2
  refine bodyPost_ret (results_cell_row rfl _ _ gb404 51 #[.int .i64 a3, .int .i64 t405, .int .i64 t406, .int .i64 a0_3, .int .i64 a0_4] (0, 0) _ rfl (by (with_reducible repeat (first | refine blk_drewN ?_ _ | refine blk_drew ?_ | refine blk_alloc ?_ _)); refine blk_put (cs := #[.int .i64 a3, .int .i64 t405, .int .i64 t406, .int .i64 a0_3, .int .i64 0]) ?_ 4 _ rfl; (with_reducible repeat (first | refine blk_drewN ?_ _ | refine blk_drew ?_ | refine blk_alloc ?_ _)); refine blk_put (cs := #[.int .i64 a3, .int .i64 t405, .int .i64 t406, .int .i64 0, .int .i64 0]) ?_ 3 _ rfl; (with_reducible repeat (first | refine blk_drewN ?_ _ | refine blk_drew ?_ | refine blk_alloc ?_ _)); refine blk_put (cs := #[.int .i64 a3, .int .i64 t405, .int .i64 0, .int .i64 0, .int .i64 0]) ?_ 2 _ rfl; (with_reducible repeat (first | refine blk_drewN ?_ _ | refine blk_drew ?_ | refine blk_alloc ?_ _)); refine blk_put (cs := #[.int .i64 a3, .int .i64 0, .int .i64 0, .int .i64 0, .int .i64 0]) ?_ 1 _ rfl; (with_reducible repeat (first | refine blk_drewN ?_ _ | refine blk_drew ?_ | refine blk_alloc ?_ _)); refine blk_put (cs := #[.int .i64 0, .int .i64 0, .int .i64 0, .int .i64 0, .int .i64 0]) ?_ 0 _ rfl; (with_reducible repeat (first | refine blk_drewN ?_ _ | refine blk_drew ?_ | refine blk_alloc ?_ _)); exact BK404.out) Try.underlying51 rfl (by kernel_rfl)) rfl ?_
  exact ⟨ew_, bs3_ HB GE402 GE403 GE404⟩
 ·have n0_ := mk_ (blk_drew BK402.out)
  have n1_ := mk_ (blk_drew BK403.out)
  have n2_ := mk_ (blk_drew BK404.out)
  have n3_ := mk_ (below_drew1 HB.out)
  clear BK402
  clear BK403
  clear BK404
  clear HB
  have BK402 := n0_
  have BK403 := n1_
  have BK404 := n2_
  have HB := n3_
  clear n0_ n1_ n2_ n3_
  refine start_ (n := 8) (S := fun w' => w'.cell? ⟨gb403, 0, none⟩ = some (.int .i64 a1_0) ∧ w'.cell? ⟨gb403, 1, none⟩ = some (.int .i64 a1_1) ∧ w'.cell? ⟨gb403, 2, none⟩ = some (.int .i64 a1_2) ∧ w'.cell? ⟨gb403, 3, none⟩ = some (.int .i64 a1_3) ∧ w'.cell? ⟨gb403, 4, none⟩ = some (.int .i64 a1_4)) (ds := []) #[n_, n_, n_, n_, n_, n_, n_, n_] (by kernel_rfl) rfl rfl ⟨(blk_cell BK403.out 0).trans rfl, (blk_cell BK403.out 1).trans rfl, (blk_cell BK403.out 2).trans rfl, (blk_cell BK403.out 3).trans rfl, (blk_cell BK403.out 4).trans rfl⟩ (fun hHeld => ?_); refine with_tabW cohousingref05_taken.tab3 cohousingref05_taken.bits3 (fun HT_ HW_ => ?_)
  generalize w9.drew = w21 at BK402 BK403 BK404 HB hHeld ⊢
  refine pu_ 0 17 (w_ 8 1) rfl HT_ ?_
  refine pu_ 2 19 (w_ 8 5) rfl HT_ ?_
  refine pu_ 4 21 (w_ 8 21) rfl HT_ ?_
  refine ta_ 1 18 (w_ 8 23) rfl HT_ HW_ hHeld (by rintro w' ⟨s0, s1, s2, s3, s4⟩; go_simp; with_reducible rfl) ?_
  refine ta_ 5 22 (w_ 8 55) rfl HT_ HW_ hHeld (by rintro w' ⟨s0, s1, s2, s3, s4⟩; go_simp; with_reducible rfl) ?_
  refine one_ (i := 3) (N := some 20) (w_ 8 63) rfl rfl (one_of HT_.out (by kernel_rfl)) (by decide) (fun K hK => ?_)
  refine goes_ Try.func44 (by kernel_rfl) rfl #[.agg #[.int .i64 a1_0, .int .i64 a1_1, .int .i64 a1_2, .int .i64 a1_3, .int .i64 a1_4], .int .i64 a3] (by rfl) rfl rfl (by (try simp only [List.map_toArray, List.map_cons, List.map_nil]); first | done | rfl | (simp only [List.length_drop, List.length_take]; rfl)) ?_
  with_reducible refine (cohousingref05_Line.calls k a1_0 a1_1 a1_2 a1_3 a1_4 a3 t407 t408 _ A17.out).mono ?_
  rintro e w22 ⟨rfl, hb⟩
  refine ⟨_, rfl, ?_⟩
  replace BK402 := mk_ (blk_below (kk_ BK402) hb)
  replace BK403 := mk_ (blk_below (kk_ BK403) hb)
  replace BK404 := mk_ (blk_below (kk_ BK404) hb)
  replace HB := mk_ (below_step (bs3_ HB GE402 GE403 GE404) hb)
  (try clear hb)
  refine hK.out _ _ ⟨(blk_cell BK403.out 0).trans rfl, (blk_cell BK403.out 1).trans rfl, (blk_cell BK403.out 2).trans rfl, (blk_cell BK403.out 3).trans rfl, (blk_cell BK403.out 4).trans rfl⟩ (fun hHeld => ?_)
  clear hK K
  refine norm_ (a' := ?_) ?_ ?_
  rotate_left
  ·show Act.put _ (some 20) _ = _
   simp only [Act.put, sI_, s0_, sS_, i64_w, i32_w]
   rfl
  refine pu_ 6 23 (w_ 8 127) rfl HT_ ?_
  refine one_ (i := 7) (N := none) (w_ 8 255) rfl rfl (one_of HT_.out (by kernel_rfl)) (by decide) (fun K hK => ?_)
  have hs23 : w22.cell? ⟨gb404, 0, none⟩ = some (.int .i64 0) := (blk_cell BK404.out 0).trans rfl
  have hfs23 := blk_frozen BK404.out 0
  have hns23_0 := NB402_404.out
  have hns23_1 := NB403_404.out
  have hms23_0 := NB404_402.out
  have hms23_1 := NB404_403.out
  have hs24 : w22.cell? ⟨gb404, 1, none⟩ = some (.int .i64 0) := (blk_cell BK404.out 1).trans rfl
  have hfs24 := blk_frozen BK404.out 1
  have hns24_0 := NB402_404.out
  have hns24_1 := NB403_404.out
  have hms24_0 := NB404_402.out
  have hms24_1 := NB404_403.out
  have hs25 : w22.cell? ⟨gb404, 2, none⟩ = some (.int .i64 0) := (blk_cell BK404.out 2).trans rfl
  have hfs25 := blk_frozen BK404.out 2
  have hns25_0 := NB402_404.out
  have hns25_1 := NB403_404.out
  have hms25_0 := NB404_402.out
  have hms25_1 := NB404_403.out
  have hs26 : w22.cell? ⟨gb404, 3, none⟩ = some (.int .i64 0) := (blk_cell BK404.out 3).trans rfl
  have hfs26 := blk_frozen BK404.out 3
  have hns26_0 := NB402_404.out
  have hns26_1 := NB403_404.out
  have hms26_0 := NB404_402.out
  have hms26_1 := NB404_403.out
  have hs27 : w22.cell? ⟨gb404, 4, none⟩ = some (.int .i64 0) := (blk_cell BK404.out 4).trans rfl
  have hfs27 := blk_frozen BK404.out 4
  have hns27_0 := NB402_404.out
  have hns27_1 := NB403_404.out
  have hms27_0 := NB404_402.out
  have hms27_1 := NB404_403.out
  refine skip_ (w1 := ?_) (by rfl) rfl ?_ ?_
  rotate_left
  ·go_simp
   rfl
  refine hK.out _ _ ⟨((cell_far (p := ⟨gb404, _, none⟩) NB403_404.out _).trans (((cell_far (p := ⟨gb404, _, none⟩) NB403_404.out _).trans (((cell_far (p := ⟨gb404, _, none⟩) NB403_404.out _).trans (((cell_far (p := ⟨gb404, _, none⟩) NB403_404.out _).trans (((cell_far (p := ⟨gb404, _, none⟩) NB403_404.out _).trans (hHeld.1)))))))))), ((cell_far (p := ⟨gb404, _, none⟩) NB403_404.out _).trans (((cell_far (p := ⟨gb404, _, none⟩) NB403_404.out _).trans (((cell_far (p := ⟨gb404, _, none⟩) NB403_404.out _).trans (((cell_far (p := ⟨gb404, _, none⟩) NB403_404.out _).trans (((cell_far (p := ⟨gb404, _, none⟩) NB403_404.out _).trans (hHeld.2.1)))))))))), ((cell_far (p := ⟨gb404, _, none⟩) NB403_404.out _).trans (((cell_far (p := ⟨gb404, _, none⟩) NB403_404.out _).trans (((cell_far (p := ⟨gb404, _, none⟩) NB403_404.out _).trans (((cell_far (p := ⟨gb404, _, none⟩) NB403_404.out _).trans (((cell_far (p := ⟨gb404, _, none⟩) NB403_404.out _).trans (hHeld.2.2.1)))))))))), ((cell_far (p := ⟨gb404, _, none⟩) NB403_404.out _).trans (((cell_far (p := ⟨gb404, _, none⟩) NB403_404.out _).trans (((cell_far (p := ⟨gb404, _, none⟩) NB403_404.out _).trans (((cell_far (p := ⟨gb404, _, none⟩) NB403_404.out _).trans (((cell_far (p := ⟨gb404, _, none⟩) NB403_404.out _).trans (hHeld.2.2.2.1)))))))))), ((cell_far (p := ⟨gb404, _, none⟩) NB403_404.out _).trans (((cell_far (p := ⟨gb404, _, none⟩) NB403_404.out _).trans (((cell_far (p := ⟨gb404, _, none⟩) NB403_404.out _).trans (((cell_far (p := ⟨gb404, _, none⟩) NB403_404.out _).trans (((cell_far (p := ⟨gb404, _, none⟩) NB403_404.out _).trans (hHeld.2.2.2.2))))))))))⟩ (fun hHeld => ?_)
  clear hK K
  refine done_ (done_of HT_.out (by kernel_rfl)) ?_
  try go_wp2
  refine bodyPost_ret (results_cell_row rfl _ _ gb404 51 #[.int .i64 a3, .int .i64 t407, .int .i64 t408, .int .i64 a1_3, .int .i64 a1_4] (0, 0) _ rfl (by (with_reducible repeat (first | refine blk_drewN ?_ _ | refine blk_drew ?_ | refine blk_alloc ?_ _)); refine blk_put (cs := #[.int .i64 a3, .int .i64 t407, .int .i64 t408, .int .i64 a1_3, .int .i64 0]) ?_ 4 _ rfl; (with_reducible repeat (first | refine blk_drewN ?_ _ | refine blk_drew ?_ | refine blk_alloc ?_ _)); refine blk_put (cs := #[.int .i64 a3, .int .i64 t407, .int .i64 t408, .int .i64 0, .int .i64 0]) ?_ 3 _ rfl; (with_reducible repeat (first | refine blk_drewN ?_ _ | refine blk_drew ?_ | refine blk_alloc ?_ _)); refine blk_put (cs := #[.int .i64 a3, .int .i64 t407, .int .i64 0, .int .i64 0, .int .i64 0]) ?_ 2 _ rfl; (with_reducible repeat (first | refine blk_drewN ?_ _ | refine blk_drew ?_ | refine blk_alloc ?_ _)); refine blk_put (cs := #[.int .i64 a3, .int .i64 0, .int .i64 0, .int .i64 0, .int .i64 0]) ?_ 1 _ rfl; (with_reducible repeat (first | refine blk_drewN ?_ _ | refine blk_drew ?_ | refine blk_alloc ?_ _)); refine blk_put (cs := #[.int .i64 0, .int .i64 0, .int .i64 0, .int .i64 0, .int .i64 0]) ?_ 0 _ rfl; (with_reducible repeat (first | refine blk_drewN ?_ _ | refine blk_drew ?_ | refine blk_alloc ?_ _)); exact BK404.out) Try.underlying51 rfl (by kernel_rfl)) rfl ?_
  exact ⟨ew_, bs3_ HB GE402 GE403 GE404⟩
end
section
mutual
def cohousingref05_Least.j0 : Nat → List (S51) → List (S51) → Bool → Option ((List (S51)) × Int)
 | 0, _, _, _ => none
 | k + 1, x0, x1, x31 => if x31 = true then (some (([] : List (S51)), 1)) else ((cohousingref05_Starts.f k x0 x1).bind fun t411 => (cohousingref05_Least.l0 k x0 x1 ([] : List (S51)) t411 0))
def cohousingref05_Least.l0 : Nat → List (S51) → List (S51) → List (S51) → List Int → Int → Option ((List (S51)) × Int)
 | 0, _, _, _, _, _ => none
 | k + 1, x0, x1, x8, x9, x10 => if x10 < (x9.length : Int) then (if (wrap64 (x10 + 1)) < (x9.length : Int) then (if 0 ≤ (wrap64 (x10 + 1)) then (cohousingref05_Least.j2 k x0 x1 x8 x9 x10 (rd x9 (wrap64 (x10 + 1)))) else (none)) else (cohousingref05_Least.j2 k x0 x1 x8 x9 x10 100001)) else ((cohousingref05_result.f k x8).bind fun bt414 => (some (bt414.1, bt414.2)))
def cohousingref05_Least.j2 : Nat → List (S51) → List (S51) → List (S51) → List Int → Int → Int → Option ((List (S51)) × Int)
 | 0, _, _, _, _, _, _ => none
 | k + 1, x0, x1, x8, x9, x10, x11 => if 0 ≤ x10 then (if x10 < (x9.length : Int) then ((cohousingref05_Piece.f k x0 (rd x9 x10)).bind fun bt420 => ((cohousingref05_Piece.f k x1 (rd x9 x10)).bind fun bt426 => ((cohousingref05_Line.f k bt420.1 bt420.2.1 bt420.2.2.1 bt420.2.2.2.1 bt420.2.2.2.2 (rd x9 x10)).bind fun bt432 => ((cohousingref05_Line.f k bt426.1 bt426.2.1 bt426.2.2.1 bt426.2.2.2.1 bt426.2.2.2.2 (rd x9 x10)).bind fun bt434 => ((cohousingref05_Compare.f bt432.1 bt432.2 bt434.1 bt434.2).bind fun t436 => ((cohousingref05_taken.f k bt420.1 bt420.2.1 bt420.2.2.1 bt420.2.2.2.1 bt420.2.2.2.2 bt426.1 bt426.2.1 bt426.2.2.1 bt426.2.2.2.1 bt426.2.2.2.2 (decide (t436 ≤ 0)) (rd x9 x10)).bind fun bt437 => (if x8.length < 3518437208883 then (cohousingref05_Least.l1 k x0 x1 (x8 ++ [(⟨bt437.1, (⟨bt437.2.1, bt437.2.2.1⟩ : S24), (⟨bt437.2.2.2.1, bt437.2.2.2.2⟩ : S24)⟩ : S51)]) x9 x10 x11 (decide (t436 ≤ 0)) (rd x9 x10) x11 bt420.1 bt420.2.1 bt420.2.2.1 bt420.2.2.2.1 bt420.2.2.2.2 bt426.1 bt426.2.1 bt426.2.2.1 bt426.2.2.2.1 bt426.2.2.2.2) else (none)))))))) else (none)) else (none)
def cohousingref05_Least.l1 : Nat → List (S51) → List (S51) → List (S51) → List Int → Int → Int → Bool → Int → Int → Int → Int → Int → Int → Int → Int → Int → Int → Int → Int → Option ((List (S51)) × Int)
 | 0, _, _, _, _, _, _, _, _, _, _, _, _, _, _, _, _, _, _, _ => none
 | k + 1, x0, x1, x8, x9, x10, x11, x15, x16, x17, x426000, x426001, x426002, x426003, x426004, x432000, x432001, x432002, x432003, x432004 => if (wrap64 (x17 - x16)) > 1 then ((cohousingref05_Line.f k x426000 x426001 x426002 x426003 x426004 (wrap64 (Int.tdiv (wrap64 (x16 + x17)) 2))).bind fun bt453 => ((cohousingref05_Line.f k x432000 x432001 x432002 x432003 x432004 (wrap64 (Int.tdiv (wrap64 (x16 + x17)) 2))).bind fun bt455 => ((cohousingref05_Compare.f bt453.1 bt453.2 bt455.1 bt455.2).bind fun t457 => (if ((decide (t457 ≤ 0)) == x15) = true then (cohousingref05_Least.l1 k x0 x1 x8 x9 x10 x11 x15 (wrap64 (Int.tdiv (wrap64 (x16 + x17)) 2)) x17 x426000 x426001 x426002 x426003 x426004 x432000 x432001 x432002 x432003 x432004) else (cohousingref05_Least.l1 k x0 x1 x8 x9 x10 x11 x15 x16 (wrap64 (Int.tdiv (wrap64 (x16 + x17)) 2)) x426000 x426001 x426002 x426003 x426004 x432000 x432001 x432002 x432003 x432004))))) else (if x17 < x11 then ((cohousingref05_taken.f k x426000 x426001 x426002 x426003 x426004 x432000 x432001 x432002 x432003 x432004 (!x15) x17).bind fun bt445 => (if x8.length < 3518437208883 then (cohousingref05_Least.l0 k x0 x1 (x8 ++ [(⟨bt445.1, (⟨bt445.2.1, bt445.2.2.1⟩ : S24), (⟨bt445.2.2.2.1, bt445.2.2.2.2⟩ : S24)⟩ : S51)]) x9 (wrap64 (x10 + 1))) else (none))) else (cohousingref05_Least.l0 k x0 x1 x8 x9 (wrap64 (x10 + 1))))
end
def cohousingref05_Least.f (k : Nat) (l0 : List (S51)) (l1 : List (S51)) : Option ((List (S51)) × Int) := (cohousingref05_Valid.f k l0).bind fun t409 => ((cohousingref05_Valid.f k l1).bind fun t410 => (if t409 = true then (cohousingref05_Least.j0 k l0 l1 (!t410)) else (cohousingref05_Least.j0 k l0 l1 true)))
def cohousingref05_Least.T16 : Bool × List (List Nat × List Nat) := (true, [([], []), ([], []), ([0, 1], [0, 1]), ([], []), ([], []), ([3, 4, 2], [3, 4]), ([2, 5, 5], [2, 5]), ([6], [6]), ([7, 6, 0, 1, 2, 3, 4, 5, 6, 7], [7])])
def cohousingref05_Least.B16 : List Nat := [0, 0, 3, 0, 0, 31, 63, 127, 255]
theorem cohousingref05_Least.tab16 : rtab .any (opsOf Try.f22 16) = cohousingref05_Least.T16 := by kernel_rfl
theorem cohousingref05_Least.bits16 : waitsOk cohousingref05_Least.T16.2 cohousingref05_Least.B16 = true := by kernel_rfl
def cohousingref05_Least.T22 : Bool × List (List Nat × List Nat) := (true, [([], []), ([], []), ([0, 1], [0, 1]), ([], []), ([], []), ([3, 4, 2], [3, 4]), ([2, 5, 5], [2, 5]), ([6], [6]), ([7, 6, 0, 1, 2, 3, 4, 5, 6, 7], [7])])
def cohousingref05_Least.B22 : List Nat := [0, 0, 3, 0, 0, 31, 63, 127, 255]
theorem cohousingref05_Least.tab22 : rtab .any (opsOf Try.f22 22) = cohousingref05_Least.T22 := by kernel_rfl
theorem cohousingref05_Least.bits22 : waitsOk cohousingref05_Least.T22.2 cohousingref05_Least.B22 = true := by kernel_rfl
theorem cohousingref05_Least.calls (k : Nat) (A0 : Option Addr) (c0 : Nat) (l0 : List (S51)) (A1 : Option Addr) (c1 : Nat) (l1 : List (S51)) (r1 : List (S51)) (r2 : Int) (w : World) (hr0 : Kd.C k51 w A0 l0.length l0) (hc0 : l0.length ≤ c0) (hr1 : Kd.C k51 w A1 l1.length l1) (hc1 : l1.length ≤ c1) (h : cohousingref05_Least.f k l0 l1 = some (r1, r2)) :
  Calls Try.prog 22 #[.slice A0 l0.length c0, .slice A1 l1.length c1] w fun e w' => ∃ v0_ : Value, e = .returned (.tuple #[v0_, .int .i64 r2]) ∧ Kd.R k51 51 w' w.heap.size (fun _ => True) v0_ r1 ∧ Below w.heap.size w w' := by
 have hu51 := Try.underlying51
 have HR0 := mk_ hr0
 have HC0 := mk_ hc0
 clear hr0 hc0
 have HR1 := mk_ hr1
 have HC1 := mk_ hc1
 clear hr1 hc1
 have HB := mk_ (Below.refl w.heap.size w)
 have H : ((cohousingref05_Valid.f k l0).bind fun t409 => ((cohousingref05_Valid.f k l1).bind fun t410 => (if t409 = true then (cohousingref05_Least.j0 k l0 l1 (!t410)) else (cohousingref05_Least.j0 k l0 l1 true)))) = some (r1, r2) := h
 clear h
 replace H := Option.bind_eq_some_iff.mp H
 obtain ⟨t409, A30, H⟩ := H
 replace H : ((cohousingref05_Valid.f k l1).bind fun t410 => (if t409 = true then (cohousingref05_Least.j0 k l0 l1 (!t410)) else (cohousingref05_Least.j0 k l0 l1 true))) = some (r1, r2) := H
 have A3 := mk_ A30
 clear A30
 replace H := Option.bind_eq_some_iff.mp H
 obtain ⟨t410, A40, H⟩ := H
 replace H : (if t409 = true then (cohousingref05_Least.j0 k l0 l1 (!t410)) else (cohousingref05_Least.j0 k l0 l1 true)) = some (r1, r2) := H
 have A4 := mk_ A40
 clear A40
 have HC5 := mk_ H
 clear H
 go_enter Try.func22, Try.ntmps22
 go_upto_region 3 with (first | ((with_reducible refine gate_callee (f := 15) rfl ?_); refine gl_ (some 23) Try.func15 #[.slice A0 l0.length c0] ?_; (with_reducible refine (cohousingref05_Valid.calls k _ _ l0 t409 _ ?side1 ?side2 A3.out).mono ?_); (case side1 => exact cc_ (HR0.out)); (case side2 => exact HC0.out); rintro e w6 ⟨rfl, hb⟩; refine ⟨_, rfl, ?_⟩; replace HB := mk_ (below_step (bb_ HB) hb); (try clear hb)) | ((with_reducible refine gate_callee (f := 15) rfl ?_); refine gl_ (some 25) Try.func15 #[.slice A1 l1.length c1] ?_; (with_reducible refine (cohousingref05_Valid.calls k _ _ l1 t410 _ ?side1 ?side2 A4.out).mono ?_); (case side1 => exact cc_ ((Kd.C_below HR1.out HB.out))); (case side2 => exact HC1.out); rintro e w7 ⟨rfl, hb⟩; refine ⟨_, rfl, ?_⟩; replace HB := mk_ (below_step (bb_ HB) hb); (try clear hb)))
 (try simp only [Act.put, sI_, s0_, sS_])
 go_cut [31] (fun v31 wc => ∃ (kq : Nat) (x31_4 : Bool), v31 = .bool x31_4 ∧ Aside0 (cohousingref05_Least.j0 kq l0 l1 x31_4 = some (r1, r2)) ∧ Aside0 (kq ≤ k) ∧ Aside0 (Below w.heap.size w wc))
 case first =>
  have H := HC5.out
  clear HC5
  by_cases c8 : t409 = true
  ·subst c8
   have H1 : (cohousingref05_Least.j0 k l0 l1 (!t410)) = some (r1, r2) := by rw [if_pos rfl] at H; exact H
   clear H
   have H := H1
   clear H1
   have H' := mk_ H
   clear H
   go_wp2
   go_meet
   case rel => exact ⟨_, (!t410), sd_, H', ⟨by first | omega | exact Nat.le_refl _⟩, ⟨bb_ HB⟩⟩
  replace c8 := Bool.eq_false_iff.mpr c8
  subst c8
  have H1 : (cohousingref05_Least.j0 k l0 l1 true) = some (r1, r2) := by rw [if_neg (show ¬ (false = true) by decide)] at H; exact H
  clear H
  have H := H1
  clear H1
  have H' := mk_ H
  clear H
  go_wp2
  go_meet
  case rel => exact ⟨_, (true), sd_, H', ⟨by first | omega | exact Nat.le_refl _⟩, ⟨bb_ HB⟩⟩
 case rest =>
  clear HC5
  obtain ⟨kq, x31_4, rfl, HA, HJ4, HB⟩ := hcut
  cases kq with
  | zero => exact absurd HA.out (by simp [cohousingref05_Least.j0])
  | succ kj4 =>
   have H := HA.out
   clear HA
   simp only [cohousingref05_Least.j0] at H
   by_cases c9 : x31_4 = true
   ·subst c9
    have H1 : (some (([] : List (S51)), 1)) = some (r1, r2) := by rw [if_pos rfl] at H; exact H
    clear H
    have H := H1
    clear H1
    simp only [Option.some.injEq, Prod.mk.injEq] at H
    obtain ⟨rfl, rfl⟩ := H
    go_wp2
    go_ret2
    exact ⟨_, ew_, by first | exact Kd.R_nil _ _ _ _ _ | exact Kd.N_nil _ _ _ _ _ | exact Kd.V_nil _ _ _ _ _ | exact Kd.Q_nil _ _ _ _ _ | exact Kd.S_nil _ _ _ _ _, bb_ HB⟩
   replace c9 := Bool.eq_false_iff.mpr c9
   subst c9
   have H1 : ((cohousingref05_Starts.f kj4 l0 l1).bind fun t411 => (cohousingref05_Least.l0 kj4 l0 l1 ([] : List (S51)) t411 0)) = some (r1, r2) := by rw [if_neg (show ¬ (false = true) by decide)] at H; exact H
   clear H
   have H := H1
   clear H1
   replace H := Option.bind_eq_some_iff.mp H
   obtain ⟨t411, A100, H⟩ := H
   replace H : (cohousingref05_Least.l0 kj4 l0 l1 ([] : List (S51)) t411 0) = some (r1, r2) := H
   have A10 := mk_ A100
   clear A100
   have H' := mk_ H
   clear H
   go_wp2_with (first | ((with_reducible refine gate_callee (f := 42) rfl ?_); refine gl_ (some 34) Try.func42 #[.slice A0 l0.length c0, .slice A1 l1.length c1] ?_; (with_reducible refine (cohousingref05_Starts.calls kj4 _ _ l0 _ _ l1 t411 _ ?side1 ?side2 ?side3 ?side4 A10.out).mono ?_); (case side1 => exact cc_ ((Kd.C_below HR0.out HB.out))); (case side2 => exact HC0.out); (case side3 => exact cc_ ((Kd.C_below HR1.out HB.out))); (case side4 => exact HC1.out); rintro e w11 ⟨v412, rfl, ho0, hb⟩; refine ⟨_, rfl, ?_⟩; have HO413 := mk_ (Kd.R_lower ho0 (below_size (bb_ HB))); replace HB := mk_ (below_step (bb_ HB) hb); (try clear hb); (try clear ho0)))
   go_loopg [8, 10] kj4 (fun kq v8 v10 w' => ∃ (x8_2 : List (S51)) (x10_2 : Int), v10 = .int .i64 x10_2 ∧ Aside0 (cohousingref05_Least.l0 kq l0 l1 x8_2 t411 x10_2 = some (r1, r2)) ∧ Aside0 (kq ≤ kj4) ∧ Aside0 (Kd.R k51 51 w' w.heap.size (fun _ => True) v8 x8_2) ∧ Aside0 (Kd.R (Kd.int .i64) 3 w' w.heap.size (fun _ => True) v412 t411) ∧ Aside0 (Below w.heap.size w w'))
   case atStart => exact ⟨(([] : List (S51))), (0), sd_, H', ⟨Nat.le_refl _⟩, ⟨by first | exact Kd.R_nil _ _ _ _ _ | exact Kd.N_nil _ _ _ _ _ | exact Kd.V_nil _ _ _ _ _ | exact Kd.Q_nil _ _ _ _ _ | exact Kd.S_nil _ _ _ _ _⟩, ⟨rr_ HO413⟩, ⟨bb_ HB⟩⟩
   case round =>
    clear H'
    obtain ⟨x8_2, x10_2, rfl, HA, HK2, HO_8, HO_9, HB⟩ := hrel
    cases gk with
    | zero => exact absurd HA.out (by simp [cohousingref05_Least.l0])
    | succ k2 =>
     have H := HA.out
     clear HA
     simp only [cohousingref05_Least.l0] at H
     by_cases c12 : x10_2 < (t411.length : Int)
     rotate_left
     ·rw [if_neg c12] at H
      have c12b0 : decide (x10_2 < (t411.length : Int)) = false := decide_eq_false c12
      clear c12
      replace H := Option.bind_eq_some_iff.mp H
      obtain ⟨⟨t414, t415⟩, A640, H⟩ := H
      replace H : (some (t414, t415)) = some (r1, r2) := H
      have A64 := mk_ A640
      clear A640
      simp only [Option.some.injEq, Prod.mk.injEq] at H
      obtain ⟨rfl, rfl⟩ := H
      obtain ⟨Ao65, co65, eo65⟩ := Kd.R_slice HO_9.out
      subst eo65
      obtain ⟨Ao66, co66, eo66⟩ := Kd.R_slice HO_8.out
      subst eo66
      go_wp2_with (first | ((with_reducible refine gate_callee (f := 45) rfl ?_); refine gl_ (some 114) Try.func45 #[.slice Ao66 x8_2.length co66] ?_; (with_reducible refine (cohousingref05_result.calls k2 _ _ x8_2 t414 t415 _ ?side1 ?side2 A64.out).mono ?_); (case side1 => exact cc_ ((Kd.R_reads' HO_8.out).2.2)); (case side2 => exact (Kd.R_reads' HO_8.out).2.1); rintro e w67 ⟨v416, rfl, ho0, hb⟩; refine ⟨_, rfl, ?_⟩; replace HO_9 := mk_ (Kd.R_below (rr_ HO_9) hb); have HO417 := mk_ (Kd.R_lower (Kd.R_new' ho0 (Kd.R_lt (rr_ HO_8))) (below_size (bb_ HB))); replace HO_8 := mk_ (Kd.R_elder' (rr_ HO_8) (Kd.R_base ho0) hb); replace HB := mk_ (below_step (bb_ HB) hb); (try clear hb); (try clear ho0)))
      go_ret2
      exact ⟨_, ew_, by (with_reducible repeat (first | apply Kd.R_alloc | apply Kd.R_drewN | apply Kd.R_drew)); exact Kd.R_mono HO417.out (fun _ hk => trivial), bb_ HB⟩
     rw [if_pos c12] at H
     have c12b0 : decide (x10_2 < (t411.length : Int)) = true := decide_eq_true c12
     clear c12
     have HC13 := mk_ H
     clear H
     obtain ⟨Ao14, co14, eo14⟩ := Kd.R_slice HO_9.out
     subst eo14
     go_upto_if 45 with (fail)
     go_cut [11] (fun v11 wc => ∃ (kq : Nat) (x11_12 : Int), v11 = .int .i64 x11_12 ∧ Aside0 (cohousingref05_Least.j2 kq l0 l1 x8_2 t411 x10_2 x11_12 = some (r1, r2)) ∧ Aside0 (kq ≤ k2) ∧ Aside0 (Kd.R k51 51 wc w.heap.size (fun _ => True) u8 x8_2) ∧ Aside0 (Kd.R (Kd.int .i64) 3 wc w.heap.size (fun _ => True) (.slice Ao14 t411.length co14) t411) ∧ Aside0 (Below w.heap.size w wc))
     case first =>
      have H := HC13.out
      clear HC13
      by_cases c15 : (wrap64 (x10_2 + 1)) < (t411.length : Int)
      rotate_left
      ·rw [if_neg c15] at H
       have c15b0 : decide ((wrap64 (x10_2 + 1)) < (t411.length : Int)) = false := decide_eq_false c15
       clear c15
       (first | rw [c15b0] | (simp only [i64_w, i32_w]; rw [c15b0]) | skip)
       have H' := mk_ H
       clear H
       go_wp2
       go_meet
       case rel => exact ⟨_, (100001), sd_, H', ⟨by have := HJ4.out; have := HK2.out; first | omega | exact Nat.le_refl _⟩, ⟨rr_ HO_8⟩, ⟨rr_ HO_9⟩, ⟨bb_ HB⟩⟩
      rw [if_pos c15] at H
      have c15b0 : decide ((wrap64 (x10_2 + 1)) < (t411.length : Int)) = true := decide_eq_true c15
      clear c15
      (first | rw [c15b0] | (simp only [i64_w, i32_w]; rw [c15b0]) | skip)
      obtain ⟨ji16, hji16⟩ : ∃ j_ : Int, (wrap64 (x10_2 + 1)) = j_ := ⟨_, rfl⟩
      replace H : (if 0 ≤ (ji16) then (cohousingref05_Least.j2 k2 l0 l1 x8_2 t411 x10_2 (rd t411 (ji16))) else (none)) = some (r1, r2) := by first | (rw [hji16] at H; exact H) | (simp only [hji16] at H ⊢; exact H)
      (try rw [hji16] at c15b0)
      have hji16w : (IntKind.i64.wrap (x10_2 + 1)) = ji16 := (i64_w _).trans hji16
      by_cases c17 : 0 ≤ (ji16)
      rotate_left
      ·rw [if_neg c17] at H
       exact absurd H (by simp)
      rw [if_pos c17] at H
      have c17b0 : decide (0 ≤ (ji16)) = true := decide_eq_true c17
      clear c17
      have H' := mk_ H
      clear H
      have p418 : 0 ≤ ((ji16) : Int) := od_
      have q418 : (ji16) < (t411.length : Int) := od_
      obtain ⟨ad418, e418, hx418_0⟩ := Kd.at_int (Kd.R_reads' HO_9.out).2.2 (ji16) p418 q418
      cases e418
      replace p418 := eq_true p418
      replace q418 := eq_true q418
      go_wp2
      go_meet
      case rel => exact ⟨_, (rd t411 (ji16)), (by first | rfl | (simp; done) | (simp only [← hji16] <;> (first | rfl | simp)) | (simp [*]; done)), H', ⟨by have := HJ4.out; have := HK2.out; first | omega | exact Nat.le_refl _⟩, ⟨rr_ HO_8⟩, ⟨rr_ HO_9⟩, ⟨bb_ HB⟩⟩
     case rest =>
      clear HC13
      obtain ⟨kq, x11_12, rfl, HA, HJ12, HO_8, HO_9, HB⟩ := hcut
      cases kq with
      | zero => exact absurd HA.out (by simp [cohousingref05_Least.j2])
      | succ kj12 =>
       have H := HA.out
       clear HA
       simp only [cohousingref05_Least.j2] at H
       by_cases c18 : 0 ≤ x10_2
       rotate_left
       ·rw [if_neg c18] at H
        exact absurd H (by simp)
       rw [if_pos c18] at H
       have c18b0 : decide (0 ≤ x10_2) = true := decide_eq_true c18
       clear c18
       by_cases c19 : x10_2 < (t411.length : Int)
       rotate_left
       ·rw [if_neg c19] at H
        exact absurd H (by simp)
       rw [if_pos c19] at H
       have c19b0 : decide (x10_2 < (t411.length : Int)) = true := decide_eq_true c19
       clear c19
       replace H := Option.bind_eq_some_iff.mp H
       obtain ⟨⟨t420, t421, t422, t423, t424⟩, A200, H⟩ := H
       replace H : ((cohousingref05_Piece.f kj12 l1 (rd t411 x10_2)).bind fun bt426 => ((cohousingref05_Line.f kj12 t420 t421 t422 t423 t424 (rd t411 x10_2)).bind fun bt432 => ((cohousingref05_Line.f kj12 bt426.1 bt426.2.1 bt426.2.2.1 bt426.2.2.2.1 bt426.2.2.2.2 (rd t411 x10_2)).bind fun bt434 => ((cohousingref05_Compare.f bt432.1 bt432.2 bt434.1 bt434.2).bind fun t436 => ((cohousingref05_taken.f kj12 t420 t421 t422 t423 t424 bt426.1 bt426.2.1 bt426.2.2.1 bt426.2.2.2.1 bt426.2.2.2.2 (decide (t436 ≤ 0)) (rd t411 x10_2)).bind fun bt437 => (if x8_2.length < 3518437208883 then (cohousingref05_Least.l1 kj12 l0 l1 (x8_2 ++ [(⟨bt437.1, (⟨bt437.2.1, bt437.2.2.1⟩ : S24), (⟨bt437.2.2.2.1, bt437.2.2.2.2⟩ : S24)⟩ : S51)]) t411 x10_2 x11_12 (decide (t436 ≤ 0)) (rd t411 x10_2) x11_12 t420 t421 t422 t423 t424 bt426.1 bt426.2.1 bt426.2.2.1 bt426.2.2.2.1 bt426.2.2.2.2) else (none))))))) = some (r1, r2) := H
       have A20 := mk_ A200
       clear A200
       replace H := Option.bind_eq_some_iff.mp H
       obtain ⟨⟨t426, t427, t428, t429, t430⟩, A210, H⟩ := H
       replace H : ((cohousingref05_Line.f kj12 t420 t421 t422 t423 t424 (rd t411 x10_2)).bind fun bt432 => ((cohousingref05_Line.f kj12 t426 t427 t428 t429 t430 (rd t411 x10_2)).bind fun bt434 => ((cohousingref05_Compare.f bt432.1 bt432.2 bt434.1 bt434.2).bind fun t436 => ((cohousingref05_taken.f kj12 t420 t421 t422 t423 t424 t426 t427 t428 t429 t430 (decide (t436 ≤ 0)) (rd t411 x10_2)).bind fun bt437 => (if x8_2.length < 3518437208883 then (cohousingref05_Least.l1 kj12 l0 l1 (x8_2 ++ [(⟨bt437.1, (⟨bt437.2.1, bt437.2.2.1⟩ : S24), (⟨bt437.2.2.2.1, bt437.2.2.2.2⟩ : S24)⟩ : S51)]) t411 x10_2 x11_12 (decide (t436 ≤ 0)) (rd t411 x10_2) x11_12 t420 t421 t422 t423 t424 t426 t427 t428 t429 t430) else (none)))))) = some (r1, r2) := H
       have A21 := mk_ A210
       clear A210
       replace H := Option.bind_eq_some_iff.mp H
       obtain ⟨⟨t432, t433⟩, A220, H⟩ := H
       replace H : ((cohousingref05_Line.f kj12 t426 t427 t428 t429 t430 (rd t411 x10_2)).bind fun bt434 => ((cohousingref05_Compare.f t432 t433 bt434.1 bt434.2).bind fun t436 => ((cohousingref05_taken.f kj12 t420 t421 t422 t423 t424 t426 t427 t428 t429 t430 (decide (t436 ≤ 0)) (rd t411 x10_2)).bind fun bt437 => (if x8_2.length < 3518437208883 then (cohousingref05_Least.l1 kj12 l0 l1 (x8_2 ++ [(⟨bt437.1, (⟨bt437.2.1, bt437.2.2.1⟩ : S24), (⟨bt437.2.2.2.1, bt437.2.2.2.2⟩ : S24)⟩ : S51)]) t411 x10_2 x11_12 (decide (t436 ≤ 0)) (rd t411 x10_2) x11_12 t420 t421 t422 t423 t424 t426 t427 t428 t429 t430) else (none))))) = some (r1, r2) := H
       have A22 := mk_ A220
       clear A220
       replace H := Option.bind_eq_some_iff.mp H
       obtain ⟨⟨t434, t435⟩, A230, H⟩ := H
       replace H : ((cohousingref05_Compare.f t432 t433 t434 t435).bind fun t436 => ((cohousingref05_taken.f kj12 t420 t421 t422 t423 t424 t426 t427 t428 t429 t430 (decide (t436 ≤ 0)) (rd t411 x10_2)).bind fun bt437 => (if x8_2.length < 3518437208883 then (cohousingref05_Least.l1 kj12 l0 l1 (x8_2 ++ [(⟨bt437.1, (⟨bt437.2.1, bt437.2.2.1⟩ : S24), (⟨bt437.2.2.2.1, bt437.2.2.2.2⟩ : S24)⟩ : S51)]) t411 x10_2 x11_12 (decide (t436 ≤ 0)) (rd t411 x10_2) x11_12 t420 t421 t422 t423 t424 t426 t427 t428 t429 t430) else (none)))) = some (r1, r2) := H
       have A23 := mk_ A230
       clear A230
       replace H := Option.bind_eq_some_iff.mp H
       obtain ⟨t436, A240, H⟩ := H
       replace H : ((cohousingref05_taken.f kj12 t420 t421 t422 t423 t424 t426 t427 t428 t429 t430 (decide (t436 ≤ 0)) (rd t411 x10_2)).bind fun bt437 => (if x8_2.length < 3518437208883 then (cohousingref05_Least.l1 kj12 l0 l1 (x8_2 ++ [(⟨bt437.1, (⟨bt437.2.1, bt437.2.2.1⟩ : S24), (⟨bt437.2.2.2.1, bt437.2.2.2.2⟩ : S24)⟩ : S51)]) t411 x10_2 x11_12 (decide (t436 ≤ 0)) (rd t411 x10_2) x11_12 t420 t421 t422 t423 t424 t426 t427 t428 t429 t430) else (none))) = some (r1, r2) := H
       have A24 := mk_ A240
       clear A240
       replace H := Option.bind_eq_some_iff.mp H
       obtain ⟨⟨t437, t438, t439, t440, t441⟩, A250, H⟩ := H
       replace H : (if x8_2.length < 3518437208883 then (cohousingref05_Least.l1 kj12 l0 l1 (x8_2 ++ [(⟨t437, (⟨t438, t439⟩ : S24), (⟨t440, t441⟩ : S24)⟩ : S51)]) t411 x10_2 x11_12 (decide (t436 ≤ 0)) (rd t411 x10_2) x11_12 t420 t421 t422 t423 t424 t426 t427 t428 t429 t430) else (none)) = some (r1, r2) := H
       have A25 := mk_ A250
       clear A250
       by_cases c26 : x8_2.length < 3518437208883
       rotate_left
       ·rw [if_neg c26] at H
        exact absurd H (by simp)
       rw [if_pos c26] at H
       have LMc26 := mk_ c26
       clear c26
       obtain ⟨y442, hy442⟩ : ∃ y_ : List (S51), y_ = (x8_2 ++ [(⟨t437, (⟨t438, t439⟩ : S24), (⟨t440, t441⟩ : S24)⟩ : S51)]) := ⟨_, rfl⟩
       replace H : (cohousingref05_Least.l1 kj12 l0 l1 y442 t411 x10_2 x11_12 (decide (t436 ≤ 0)) (rd t411 x10_2) x11_12 t420 t421 t422 t423 t424 t426 t427 t428 t429 t430) = some (r1, r2) := by first | (rw [hy442]; with_reducible exact H) | (have H2_ := (Option.bind_some _ _).symm.trans H; rw [hy442]; with_reducible exact H2_) | (have H2_ := (Option.bind_some _ _).symm.trans H; with_reducible exact H2_) | with_reducible exact H | (rw [hy442]; exact H) | exact H
       have Ny442 := mk_ hy442
       clear hy442
       have H' := mk_ H
       clear H
       have p419 : 0 ≤ (x10_2 : Int) := od_
       have q419 : x10_2 < (t411.length : Int) := od_
       obtain ⟨ad419, e419, hx419_0⟩ := Kd.at_int (Kd.R_reads' HO_9.out).2.2 x10_2 p419 q419
       cases e419
       replace p419 := eq_true p419
       replace q419 := eq_true q419
       try go_wp2_with (first | ((with_reducible refine gate_callee (f := 43) rfl ?_); refine gl_ (some 57) Try.func43 #[.slice A0 l0.length c0, .int .i64 (rd t411 x10_2)] ?_; (with_reducible refine (cohousingref05_Piece.calls kj12 _ _ l0 (rd t411 x10_2) t420 t421 t422 t423 t424 _ ?side1 ?side2 A20.out).mono ?_); (case side1 => exact cc_ ((Kd.C_below HR0.out HB.out))); (case side2 => exact HC0.out); rintro e w27 ⟨rfl, hb⟩; refine ⟨_, rfl, ?_⟩; replace HO_8 := mk_ (Kd.R_below (rr_ HO_8) hb); replace HO_9 := mk_ (Kd.R_below (rr_ HO_9) hb); replace HB := mk_ (below_step (bb_ HB) hb); (try clear hb)) | ((with_reducible refine gate_dst (N := 13) rfl ?_); refine box_event ?hg (N := 13) ?hd (cs := #[.int .i64 0, .int .i64 0, .int .i64 0, .int .i64 0, .int .i64 0]) (t := 51) ?hr ?_; (case hd => rfl); (case hg => rfl); (case hr => first | (go_simp; done) | (go_simp; rfl)); intro gb425 hg w28 hbox hb; replace HO_8 := mk_ (Kd.R_below (Kd.R_elderB (rr_ HO_8) gb425 (Nat.le_of_eq hg.symm)) hb); replace HO_9 := mk_ (Kd.R_below (rr_ HO_9) hb); have BK425 := mk_ (hbox); have GW425 := mk_ (bz_ hg (bb_ HB)); have GE425 := mk_ (bz_ hg (bb_ HB)); replace HB := mk_ (below_step (bb_ HB) hb); clear hb hbox hg; have hcz29_0 := bc0_ BK425.out; have hcz29_1 := bc1_ BK425.out; have hcz29_2 := bc2_ BK425.out; have hcz29_3 : w28.cell? ⟨gb425, 3, none⟩ = some (.int .i64 0) := (blk_cell BK425.out 3).trans rfl; have hcz29_4 : w28.cell? ⟨gb425, 4, none⟩ = some (.int .i64 0) := (blk_cell BK425.out 4).trans rfl; have hfz29_0 := blk_frozen BK425.out 0; have hfz29_1 := blk_frozen BK425.out 1; have hfz29_2 := blk_frozen BK425.out 2; have hfz29_3 := blk_frozen BK425.out 3; have hfz29_4 := blk_frozen BK425.out 4) | ((with_reducible refine gate_callee (f := 43) rfl ?_); refine gl_ (some 60) Try.func43 #[.slice A1 l1.length c1, .int .i64 (rd t411 x10_2)] ?_; (with_reducible refine (cohousingref05_Piece.calls kj12 _ _ l1 (rd t411 x10_2) t426 t427 t428 t429 t430 _ ?side1 ?side2 A21.out).mono ?_); (case side1 => exact Kd.C_below HR1.out (bs_ HB GE425.out)); (case side2 => exact HC1.out); rintro e w30 ⟨rfl, hb⟩; refine ⟨_, rfl, ?_⟩; replace HO_8 := mk_ (Kd.R_below (by (with_reducible repeat (first | apply Kd.R_alloc | apply Kd.R_drewN | apply Kd.R_drew)); exact (Kd.R_mono (Kd.R_far (p := ⟨gb425, 4, none⟩) (Kd.R_far (p := ⟨gb425, 3, none⟩) (Kd.R_far (p := ⟨gb425, 2, none⟩) (Kd.R_far (p := ⟨gb425, 1, none⟩) (Kd.R_far (p := ⟨gb425, 0, none⟩) (Kd.R_mono HO_8.out (fun k_ hk => (⟨hk, hk.2⟩ : _ ∧ k_ ≠ gb425))) (fun _ hk => hk.2) (.int .i64 t420)) (fun _ hk => hk.2) (.int .i64 t421)) (fun _ hk => hk.2) (.int .i64 t422)) (fun _ hk => hk.2) (.int .i64 t423)) (fun _ hk => hk.2) (.int .i64 t424)) (fun _ h_ => h_.1))) hb); replace HO_9 := mk_ (Kd.R_below (by (with_reducible repeat (first | apply Kd.R_alloc | apply Kd.R_drewN | apply Kd.R_drew)); exact (Kd.R_mono (Kd.R_far (p := ⟨gb425, 4, none⟩) (Kd.R_far (p := ⟨gb425, 3, none⟩) (Kd.R_far (p := ⟨gb425, 2, none⟩) (Kd.R_far (p := ⟨gb425, 1, none⟩) (Kd.R_far (p := ⟨gb425, 0, none⟩) (Kd.R_types HO_9.out BK425.out (by decide)) (fun _ hk => hk.2) (.int .i64 t420)) (fun _ hk => hk.2) (.int .i64 t421)) (fun _ hk => hk.2) (.int .i64 t422)) (fun _ hk => hk.2) (.int .i64 t423)) (fun _ hk => hk.2) (.int .i64 t424)) (fun _ h_ => h_.1))) hb); replace BK425 := mk_ (blk_below (g := gb425) (o := .cells #[.int .i64 t420, .int .i64 t421, .int .i64 t422, .int .i64 t423, .int .i64 t424] 51 (0, 0)) (by (with_reducible repeat (first | refine blk_drewN ?_ _ | refine blk_drew ?_ | refine blk_alloc ?_ _)); refine blk_put (cs := #[.int .i64 t420, .int .i64 t421, .int .i64 t422, .int .i64 t423, .int .i64 0]) ?_ 4 _ rfl; (with_reducible repeat (first | refine blk_drewN ?_ _ | refine blk_drew ?_ | refine blk_alloc ?_ _)); refine blk_put (cs := #[.int .i64 t420, .int .i64 t421, .int .i64 t422, .int .i64 0, .int .i64 0]) ?_ 3 _ rfl; (with_reducible repeat (first | refine blk_drewN ?_ _ | refine blk_drew ?_ | refine blk_alloc ?_ _)); refine blk_put (cs := #[.int .i64 t420, .int .i64 t421, .int .i64 0, .int .i64 0, .int .i64 0]) ?_ 2 _ rfl; (with_reducible repeat (first | refine blk_drewN ?_ _ | refine blk_drew ?_ | refine blk_alloc ?_ _)); refine blk_put (cs := #[.int .i64 t420, .int .i64 0, .int .i64 0, .int .i64 0, .int .i64 0]) ?_ 1 _ rfl; (with_reducible repeat (first | refine blk_drewN ?_ _ | refine blk_drew ?_ | refine blk_alloc ?_ _)); refine blk_put (cs := #[.int .i64 0, .int .i64 0, .int .i64 0, .int .i64 0, .int .i64 0]) ?_ 0 _ rfl; (with_reducible repeat (first | refine blk_drewN ?_ _ | refine blk_drew ?_ | refine blk_alloc ?_ _)); exact BK425.out) hb); replace HB := mk_ (below_step (bs_ HB GE425.out) hb); (try clear hb)) | ((with_reducible refine gate_dst (N := 14) rfl ?_); refine box_event ?hg (N := 14) ?hd (cs := #[.int .i64 0, .int .i64 0, .int .i64 0, .int .i64 0, .int .i64 0]) (t := 51) ?hr ?_; (case hd => rfl); (case hg => rfl); (case hr => first | (go_simp; done) | (go_simp; rfl)); intro gb431 hg w31 hbox hb; replace HO_8 := mk_ (Kd.R_below (Kd.R_elderB (rr_ HO_8) gb431 (Nat.le_of_eq hg.symm)) hb); replace HO_9 := mk_ (Kd.R_below (rr_ HO_9) hb); have BK431 := mk_ (hbox); have GW431 := mk_ (bz_ hg (bs_ HB GE425.out)); have GE431 := mk_ (bz_ hg (bs_ HB GE425.out)); replace HB := mk_ (below_step (bs_ HB GE425.out) hb); have NB425_431 := mk_ (bl_ hg (kk_ BK425)); have NB431_425 := mk_ (bg_ hg (kk_ BK425)); replace BK425 := mk_ (blk_below (kk_ BK425) hb); clear hb hbox hg; have hnb32 := NB431_425.out; have hnc32 := NB425_431.out; have hcz33_0 := bc0_ BK431.out; have hcz33_1 := bc1_ BK431.out; have hcz33_2 := bc2_ BK431.out; have hcz33_3 : w31.cell? ⟨gb431, 3, none⟩ = some (.int .i64 0) := (blk_cell BK431.out 3).trans rfl; have hcz33_4 : w31.cell? ⟨gb431, 4, none⟩ = some (.int .i64 0) := (blk_cell BK431.out 4).trans rfl; have hfz33_0 := blk_frozen BK431.out 0; have hfz33_1 := blk_frozen BK431.out 1; have hfz33_2 := blk_frozen BK431.out 2; have hfz33_3 := blk_frozen BK431.out 3; have hfz33_4 := blk_frozen BK431.out 4))
       have n0_ : Aside0 (Kd.R k51 51 (((((w31.setCell ⟨gb431, 0, none⟩ (.int .i64 t426)).setCell ⟨gb431, 1, none⟩ (.int .i64 t427)).setCell ⟨gb431, 2, none⟩ (.int .i64 t428)).setCell ⟨gb431, 3, none⟩ (.int .i64 t429)).setCell ⟨gb431, 4, none⟩ (.int .i64 t430)) w.heap.size (fun k_ => k_ ≠ gb425 ∧ k_ ≠ gb431) u8 x8_2) := ⟨by (with_reducible repeat (first | apply Kd.R_alloc | apply Kd.R_drewN | apply Kd.R_drew)); exact Kd.R_mono (Kd.R_far (p := ⟨gb431, 4, none⟩) (Kd.R_far (p := ⟨gb431, 3, none⟩) (Kd.R_far (p := ⟨gb431, 2, none⟩) (Kd.R_far (p := ⟨gb431, 1, none⟩) (Kd.R_far (p := ⟨gb431, 0, none⟩) (Kd.R_mono HO_8.out (fun k_ hk => (⟨hk, hk.2⟩ : _ ∧ k_ ≠ gb431))) (fun _ hk => hk.2) (.int .i64 t426)) (fun _ hk => hk.2) (.int .i64 t427)) (fun _ hk => hk.2) (.int .i64 t428)) (fun _ hk => hk.2) (.int .i64 t429)) (fun _ hk => hk.2) (.int .i64 t430)) wm_⟩
       have n1_ : Aside0 (Kd.R (Kd.int .i64) 3 (((((w31.setCell ⟨gb431, 0, none⟩ (.int .i64 t426)).setCell ⟨gb431, 1, none⟩ (.int .i64 t427)).setCell ⟨gb431, 2, none⟩ (.int .i64 t428)).setCell ⟨gb431, 3, none⟩ (.int .i64 t429)).setCell ⟨gb431, 4, none⟩ (.int .i64 t430)) w.heap.size (fun _ => True) (.slice (some ad419) t411.length co14) t411) := ⟨by (with_reducible repeat (first | apply Kd.R_alloc | apply Kd.R_drewN | apply Kd.R_drew)); exact Kd.R_mono (Kd.R_far (p := ⟨gb431, 4, none⟩) (Kd.R_far (p := ⟨gb431, 3, none⟩) (Kd.R_far (p := ⟨gb431, 2, none⟩) (Kd.R_far (p := ⟨gb431, 1, none⟩) (Kd.R_far (p := ⟨gb431, 0, none⟩) (Kd.R_types HO_9.out BK431.out (by decide)) (fun _ hk => hk.2) (.int .i64 t426)) (fun _ hk => hk.2) (.int .i64 t427)) (fun _ hk => hk.2) (.int .i64 t428)) (fun _ hk => hk.2) (.int .i64 t429)) (fun _ hk => hk.2) (.int .i64 t430)) (fun _ hk => trivial)⟩
       have n2_ : Aside0 ((((((w31.setCell ⟨gb431, 0, none⟩ (.int .i64 t426)).setCell ⟨gb431, 1, none⟩ (.int .i64 t427)).setCell ⟨gb431, 2, none⟩ (.int .i64 t428)).setCell ⟨gb431, 3, none⟩ (.int .i64 t429)).setCell ⟨gb431, 4, none⟩ (.int .i64 t430)).heap[gb425]? = some (.cells #[.int .i64 t420, .int .i64 t421, .int .i64 t422, .int .i64 t423, .int .i64 t424] 51 (0, 0))) := ⟨by (with_reducible repeat (first | refine blk_drewN ?_ _ | refine blk_drew ?_ | refine blk_alloc ?_ _)); refine blk_far ?_ NB425_431.out _; (with_reducible repeat (first | refine blk_drewN ?_ _ | refine blk_drew ?_ | refine blk_alloc ?_ _)); refine blk_far ?_ NB425_431.out _; (with_reducible repeat (first | refine blk_drewN ?_ _ | refine blk_drew ?_ | refine blk_alloc ?_ _)); refine blk_far ?_ NB425_431.out _; (with_reducible repeat (first | refine blk_drewN ?_ _ | refine blk_drew ?_ | refine blk_alloc ?_ _)); refine blk_far ?_ NB425_431.out _; (with_reducible repeat (first | refine blk_drewN ?_ _ | refine blk_drew ?_ | refine blk_alloc ?_ _)); refine blk_far ?_ NB425_431.out _; (with_reducible repeat (first | refine blk_drewN ?_ _ | refine blk_drew ?_ | refine blk_alloc ?_ _)); exact BK425.out⟩
       have n3_ : Aside0 ((((((w31.setCell ⟨gb431, 0, none⟩ (.int .i64 t426)).setCell ⟨gb431, 1, none⟩ (.int .i64 t427)).setCell ⟨gb431, 2, none⟩ (.int .i64 t428)).setCell ⟨gb431, 3, none⟩ (.int .i64 t429)).setCell ⟨gb431, 4, none⟩ (.int .i64 t430)).heap[gb431]? = some (.cells #[.int .i64 t426, .int .i64 t427, .int .i64 t428, .int .i64 t429, .int .i64 t430] 51 (0, 0))) := ⟨by (with_reducible repeat (first | refine blk_drewN ?_ _ | refine blk_drew ?_ | refine blk_alloc ?_ _)); refine blk_put (cs := #[.int .i64 t426, .int .i64 t427, .int .i64 t428, .int .i64 t429, .int .i64 0]) ?_ 4 _ rfl; (with_reducible repeat (first | refine blk_drewN ?_ _ | refine blk_drew ?_ | refine blk_alloc ?_ _)); refine blk_put (cs := #[.int .i64 t426, .int .i64 t427, .int .i64 t428, .int .i64 0, .int .i64 0]) ?_ 3 _ rfl; (with_reducible repeat (first | refine blk_drewN ?_ _ | refine blk_drew ?_ | refine blk_alloc ?_ _)); refine blk_put (cs := #[.int .i64 t426, .int .i64 t427, .int .i64 0, .int .i64 0, .int .i64 0]) ?_ 2 _ rfl; (with_reducible repeat (first | refine blk_drewN ?_ _ | refine blk_drew ?_ | refine blk_alloc ?_ _)); refine blk_put (cs := #[.int .i64 t426, .int .i64 0, .int .i64 0, .int .i64 0, .int .i64 0]) ?_ 1 _ rfl; (with_reducible repeat (first | refine blk_drewN ?_ _ | refine blk_drew ?_ | refine blk_alloc ?_ _)); refine blk_put (cs := #[.int .i64 0, .int .i64 0, .int .i64 0, .int .i64 0, .int .i64 0]) ?_ 0 _ rfl; (with_reducible repeat (first | refine blk_drewN ?_ _ | refine blk_drew ?_ | refine blk_alloc ?_ _)); exact BK431.out⟩
       have n4_ : Aside0 (Below w.heap.size w (((((w31.setCell ⟨gb431, 0, none⟩ (.int .i64 t426)).setCell ⟨gb431, 1, none⟩ (.int .i64 t427)).setCell ⟨gb431, 2, none⟩ (.int .i64 t428)).setCell ⟨gb431, 3, none⟩ (.int .i64 t429)).setCell ⟨gb431, 4, none⟩ (.int .i64 t430))) := ⟨bs2_ HB GE425 GE431⟩
       (try clear HO_8)
       (try clear HO_9)
       (try clear BK425)
       (try clear BK431)
       (try clear HB)
       generalize (((((w31.setCell ⟨gb431, 0, none⟩ (.int .i64 t426)).setCell ⟨gb431, 1, none⟩ (.int .i64 t427)).setCell ⟨gb431, 2, none⟩ (.int .i64 t428)).setCell ⟨gb431, 3, none⟩ (.int .i64 t429)).setCell ⟨gb431, 4, none⟩ (.int .i64 t430)) = w34 at n0_ n1_ n2_ n3_ n4_ ⊢
       have HO_8 := n0_
       have HO_9 := n1_
       have BK425 := n2_
       have BK431 := n3_
       have HB := n4_
       clear n0_ n1_ n2_ n3_ n4_
       replace HO_8 := mk_ (Kd.R_drew HO_8.out)
       replace HO_9 := mk_ (Kd.R_drew HO_9.out)
       replace BK425 := mk_ (blk_drew BK425.out)
       replace BK431 := mk_ (blk_drew BK431.out)
       replace HB := mk_ (below_drew1 HB.out)
       refine start_ (n := 9) (S := fun w' => w'.cell? ⟨gb425, 0, none⟩ = some (.int .i64 t420) ∧ w'.cell? ⟨gb425, 1, none⟩ = some (.int .i64 t421) ∧ w'.cell? ⟨gb425, 2, none⟩ = some (.int .i64 t422) ∧ w'.cell? ⟨gb425, 3, none⟩ = some (.int .i64 t423) ∧ w'.cell? ⟨gb425, 4, none⟩ = some (.int .i64 t424) ∧ w'.cell? ⟨gb431, 0, none⟩ = some (.int .i64 t426) ∧ w'.cell? ⟨gb431, 1, none⟩ = some (.int .i64 t427) ∧ w'.cell? ⟨gb431, 2, none⟩ = some (.int .i64 t428) ∧ w'.cell? ⟨gb431, 3, none⟩ = some (.int .i64 t429) ∧ w'.cell? ⟨gb431, 4, none⟩ = some (.int .i64 t430)) (ds := []) #[n_, n_, n_, n_, n_, n_, n_, n_, n_] (by kernel_rfl) rfl rfl ⟨(blk_cell BK425.out 0).trans rfl, (blk_cell BK425.out 1).trans rfl, (blk_cell BK425.out 2).trans rfl, (blk_cell BK425.out 3).trans rfl, (blk_cell BK425.out 4).trans rfl, (blk_cell BK431.out 0).trans rfl, (blk_cell BK431.out 1).trans rfl, (blk_cell BK431.out 2).trans rfl, (blk_cell BK431.out 3).trans rfl, (blk_cell BK431.out 4).trans rfl⟩ (fun hHeld => ?_); refine with_tabW cohousingref05_Least.tab16 cohousingref05_Least.bits16 (fun HT_ HW_ => ?_)
       generalize w34.drew = w35 at HO_8 HO_9 BK425 BK431 HB hHeld ⊢
       refine pu_ 1 62 (w_ 9 2) rfl HT_ ?_
       refine pu_ 4 65 (w_ 9 18) rfl HT_ ?_
       refine ta_ 0 61 (w_ 9 19) rfl HT_ HW_ hHeld (by rintro w' ⟨s0, s1, s2, s3, s4, s5, s6, s7, s8, s9⟩; go_simp; with_reducible rfl) ?_
       refine ta_ 3 64 (w_ 9 27) rfl HT_ HW_ hHeld (by rintro w' ⟨s0, s1, s2, s3, s4, s5, s6, s7, s8, s9⟩; go_simp; with_reducible rfl) ?_
       refine one_ (i := 2) (N := some 63) (w_ 9 31) rfl rfl (one_of HT_.out (by kernel_rfl)) (by decide) (fun K hK => ?_)
       refine goes_ Try.func44 (by kernel_rfl) rfl #[.agg #[.int .i64 t420, .int .i64 t421, .int .i64 t422, .int .i64 t423, .int .i64 t424], .int .i64 (rd t411 x10_2)] (by rfl) rfl rfl (by (try simp only [List.map_toArray, List.map_cons, List.map_nil]); first | done | rfl | (simp only [List.length_drop, List.length_take]; rfl)) ?_
       with_reducible refine (cohousingref05_Line.calls kj12 t420 t421 t422 t423 t424 (rd t411 x10_2) t432 t433 _ A22.out).mono ?_
       rintro e w36 ⟨rfl, hb⟩
       refine ⟨_, rfl, ?_⟩
       replace HO_8 := mk_ (Kd.R_below (rr_ HO_8) hb)
       replace HO_9 := mk_ (Kd.R_below (rr_ HO_9) hb)
       replace BK425 := mk_ (blk_below (kk_ BK425) hb)
       replace BK431 := mk_ (blk_below (kk_ BK431) hb)
       replace HB := mk_ (below_step (bs2_ HB GE425 GE431) hb)
       (try clear hb)
       refine hK.out _ _ ⟨(blk_cell BK425.out 0).trans rfl, (blk_cell BK425.out 1).trans rfl, (blk_cell BK425.out 2).trans rfl, (blk_cell BK425.out 3).trans rfl, (blk_cell BK425.out 4).trans rfl, (blk_cell BK431.out 0).trans rfl, (blk_cell BK431.out 1).trans rfl, (blk_cell BK431.out 2).trans rfl, (blk_cell BK431.out 3).trans rfl, (blk_cell BK431.out 4).trans rfl⟩ (fun hHeld => ?_)
       clear hK K
       refine norm_ (a' := ?_) ?_ ?_
       rotate_left
       ·show Act.put _ (some 63) _ = _
        simp only [Act.put, sI_, s0_, sS_, i64_w, i32_w]
        rfl
       refine one_ (i := 5) (N := some 66) (w_ 9 63) rfl rfl (one_of HT_.out (by kernel_rfl)) (by decide) (fun K hK => ?_)
       refine goes_ Try.func44 (by kernel_rfl) rfl #[.agg #[.int .i64 t426, .int .i64 t427, .int .i64 t428, .int .i64 t429, .int .i64 t430], .int .i64 (rd t411 x10_2)] (by rfl) rfl rfl (by (try simp only [List.map_toArray, List.map_cons, List.map_nil]); first | done | rfl | (simp only [List.length_drop, List.length_take]; rfl)) ?_
       with_reducible refine (cohousingref05_Line.calls kj12 t426 t427 t428 t429 t430 (rd t411 x10_2) t434 t435 _ A23.out).mono ?_
       rintro e w37 ⟨rfl, hb⟩
       refine ⟨_, rfl, ?_⟩
       replace HO_8 := mk_ (Kd.R_below (rr_ HO_8) hb)
       replace HO_9 := mk_ (Kd.R_below (rr_ HO_9) hb)
       replace BK425 := mk_ (blk_below (kk_ BK425) hb)
       replace BK431 := mk_ (blk_below (kk_ BK431) hb)
       replace HB := mk_ (below_step (bs2_ HB GE425 GE431) hb)
       (try clear hb)
       refine hK.out _ _ ⟨(blk_cell BK425.out 0).trans rfl, (blk_cell BK425.out 1).trans rfl, (blk_cell BK425.out 2).trans rfl, (blk_cell BK425.out 3).trans rfl, (blk_cell BK425.out 4).trans rfl, (blk_cell BK431.out 0).trans rfl, (blk_cell BK431.out 1).trans rfl, (blk_cell BK431.out 2).trans rfl, (blk_cell BK431.out 3).trans rfl, (blk_cell BK431.out 4).trans rfl⟩ (fun hHeld => ?_)
       clear hK K
       refine norm_ (a' := ?_) ?_ ?_
       rotate_left
       ·show Act.put _ (some 66) _ = _
        simp only [Act.put, sI_, s0_, sS_, i64_w, i32_w]
        rfl
       refine one_ (i := 6) (N := some 67) (w_ 9 127) rfl rfl (one_of HT_.out (by kernel_rfl)) (by decide) (fun K hK => ?_)
       refine goes_ Try.func29 (by kernel_rfl) rfl #[.agg #[.int .i64 t432, .int .i64 t433], .agg #[.int .i64 t434, .int .i64 t435]] (by rfl) rfl rfl (by (try simp only [List.map_toArray, List.map_cons, List.map_nil]); first | done | rfl | (simp only [List.length_drop, List.length_take]; rfl)) ?_
       with_reducible refine (cohousingref05_Compare.calls t432 t433 t434 t435 t436 _ A24.out).mono ?_
       rintro e w38 ⟨rfl, hb⟩
       refine ⟨_, rfl, ?_⟩
       replace HO_8 := mk_ (Kd.R_below (rr_ HO_8) hb)
       replace HO_9 := mk_ (Kd.R_below (rr_ HO_9) hb)
       replace BK425 := mk_ (blk_below (kk_ BK425) hb)
       replace BK431 := mk_ (blk_below (kk_ BK431) hb)
       replace HB := mk_ (below_step (bs2_ HB GE425 GE431) hb)
       (try clear hb)
       refine hK.out _ _ ⟨(blk_cell BK425.out 0).trans rfl, (blk_cell BK425.out 1).trans rfl, (blk_cell BK425.out 2).trans rfl, (blk_cell BK425.out 3).trans rfl, (blk_cell BK425.out 4).trans rfl, (blk_cell BK431.out 0).trans rfl, (blk_cell BK431.out 1).trans rfl, (blk_cell BK431.out 2).trans rfl, (blk_cell BK431.out 3).trans rfl, (blk_cell BK431.out 4).trans rfl⟩ (fun hHeld => ?_)
       clear hK K
       refine norm_ (a' := ?_) ?_ ?_
       rotate_left
       ·show Act.put _ (some 67) _ = _
        simp only [Act.put, sI_, s0_, sS_, i64_w, i32_w]
        rfl
       refine pu_ 7 68 (w_ 9 255) rfl HT_ ?_
       refine pu_ 8 15 (w_ 9 511) rfl HT_ ?_
       refine done_ (done_of HT_.out (by kernel_rfl)) ?_
       have hcz39_0 := bc0_ BK425.out
       have hcz39_1 := bc1_ BK425.out
       have hcz39_2 := bc2_ BK425.out
       have hcz39_3 : w38.cell? ⟨gb425, 3, none⟩ = some (.int .i64 t423) := (blk_cell BK425.out 3).trans rfl
       have hcz39_4 : w38.cell? ⟨gb425, 4, none⟩ = some (.int .i64 t424) := (blk_cell BK425.out 4).trans rfl
       have hfz39_0 := blk_frozen BK425.out 0
       have hfz39_1 := blk_frozen BK425.out 1
       have hfz39_2 := blk_frozen BK425.out 2
       have hfz39_3 := blk_frozen BK425.out 3
       have hfz39_4 := blk_frozen BK425.out 4
       have hcz40_0 := bc0_ BK431.out
       have hcz40_1 := bc1_ BK431.out
       have hcz40_2 := bc2_ BK431.out
       have hcz40_3 : w38.cell? ⟨gb431, 3, none⟩ = some (.int .i64 t429) := (blk_cell BK431.out 3).trans rfl
       have hcz40_4 : w38.cell? ⟨gb431, 4, none⟩ = some (.int .i64 t430) := (blk_cell BK431.out 4).trans rfl
       have hfz40_0 := blk_frozen BK431.out 0
       have hfz40_1 := blk_frozen BK431.out 1
       have hfz40_2 := blk_frozen BK431.out 2
       have hfz40_3 := blk_frozen BK431.out 3
       have hfz40_4 := blk_frozen BK431.out 4
       try go_wp2_with (first | ((with_reducible refine gate_callee (f := 52) rfl ?_); refine gl_ (some 74) Try.func52 #[.agg #[.int .i64 t420, .int .i64 t421, .int .i64 t422, .int .i64 t423, .int .i64 t424], .agg #[.int .i64 t426, .int .i64 t427, .int .i64 t428, .int .i64 t429, .int .i64 t430], .bool (decide (t436 ≤ 0)), .int .i64 (rd t411 x10_2)] ?_; (with_reducible refine (cohousingref05_taken.calls kj12 t420 t421 t422 t423 t424 t426 t427 t428 t429 t430 (decide (t436 ≤ 0)) (rd t411 x10_2) t437 t438 t439 t440 t441 _ A25.out).mono ?_); rintro e w41 ⟨rfl, hb⟩; refine ⟨_, rfl, ?_⟩; replace HO_8 := mk_ (Kd.R_below (rr_ HO_8) hb); replace HO_9 := mk_ (Kd.R_below (rr_ HO_9) hb); replace BK425 := mk_ (blk_below (kk_ BK425) hb); replace BK431 := mk_ (blk_below (kk_ BK431) hb); replace HB := mk_ (below_step (bs2_ HB GE425 GE431) hb); (try clear hb)) | ((with_reducible refine gate_builtin (b := .append) (xs := #[.tmp 69, .tmp 75]) rfl ?_); at_builtin; refine Kd.R_append k51 (w0 := w) w.heap.size rfl (.tmp 69) (.tmp 75) 22 51 (.agg #[(.int .i64 0), (.int .i64 0), (.int .i64 0), (.int .i64 0), (.int .i64 0)]) 40 rfl Try.underlying22 info51 rfl (by decide) (by omega) u8 x8_2 (⟨t437, (⟨t438, t439⟩ : S24), (⟨t440, t441⟩ : S24)⟩ : S51) [.int .i64 t437, .int .i64 t438, .int .i64 t439, .int .i64 t440, .int .i64 t441] (fun k_ => k_ ≠ gb425 ∧ k_ ≠ gb431) (fun _ => False) rfl rfl ?aP (fun _ hk => hk.elim) ?aF ?aO ?aB ?aS ?aL ?_; (case aP => exact k51_mkM _ _ _ (⟨t437, (⟨t438, t439⟩ : S24), (⟨t440, t441⟩ : S24)⟩ : S51)); (case aB => exact (bs2_ HB GE425 GE431)); (case aF => exact (fun k_ hk => ⟨Kd.freshB (g := gb425) (o := .cells #[.int .i64 t420, .int .i64 t421, .int .i64 t422, .int .i64 t423, .int .i64 t424] 51 (0, 0)) (kk_ BK425) k_ hk, Kd.freshB (g := gb431) (o := .cells #[.int .i64 t426, .int .i64 t427, .int .i64 t428, .int .i64 t429, .int .i64 t430] 51 (0, 0)) (kk_ BK431) k_ hk⟩)); (case aO => exact (rr_ HO_8)); (case aS => exact (below_size (bs2_ HB GE425 GE431))); (case aL => have := LMc26.out; omega); intro v443 w42 ho hb hg hat; rw [← Ny442.out] at ho; have n0_ := mk_ (Kd.R_over' (rr_ HO_9) (Kd.R_typed (rr_ HO_8)) (by decide) hg); have n1_ := mk_ (blk_grown (kk_ BK425) hg (Kd.R_away HO_8.out (fun _ hk => hk.1))); have n2_ := mk_ (blk_grown (kk_ BK431) hg (Kd.R_away HO_8.out (fun _ hk => hk.2))); have n3_ := mk_ (hb); have n4_ := mk_ (ho); clear HO_9 BK425 BK431 HB HO_8; revert n0_ n1_ n2_ n3_ n4_; intro HO_9 BK425 BK431 HB HO444; clear ho hb hg hat))
       go_loopg [16, 17] kj12 (fun kq v16 v17 w' => ∃ (x16_4 : Int) (x17_4 : Int), v16 = .int .i64 x16_4 ∧ v17 = .int .i64 x17_4 ∧ Aside0 (cohousingref05_Least.l1 kq l0 l1 y442 t411 x10_2 x11_12 (decide (t436 ≤ 0)) x16_4 x17_4 t420 t421 t422 t423 t424 t426 t427 t428 t429 t430 = some (r1, r2)) ∧ Aside0 (kq ≤ kj12) ∧ Aside0 (Kd.R k51 51 w' w.heap.size (fun k_ => k_ ≠ gb425 ∧ k_ ≠ gb431) v443 y442) ∧ Aside0 (Kd.R (Kd.int .i64) 3 w' w.heap.size (fun _ => True) (.slice (some ad419) t411.length co14) t411) ∧ Aside0 (w'.heap[gb425]? = some (.cells #[.int .i64 t420, .int .i64 t421, .int .i64 t422, .int .i64 t423, .int .i64 t424] 51 (0, 0))) ∧ Aside0 (w'.heap[gb431]? = some (.cells #[.int .i64 t426, .int .i64 t427, .int .i64 t428, .int .i64 t429, .int .i64 t430] 51 (0, 0))) ∧ Aside0 (Below w.heap.size w w'))
       case atStart => exact ⟨(rd t411 x10_2), (x11_12), sd_, sd_, H', ⟨Nat.le_refl _⟩, ⟨rr_ HO444⟩, ⟨rr_ HO_9⟩, ⟨kk_ BK425⟩, ⟨kk_ BK431⟩, ⟨bs2_ HB GE425 GE431⟩⟩
       case round =>
        clear H'
        obtain ⟨x16_4, x17_4, rfl, rfl, HA, HK4, HO_8, HO_9, BK425, BK431, HB⟩ := hrel
        cases gk with
        | zero => exact absurd HA.out (by simp [cohousingref05_Least.l1])
        | succ k4 =>
         have H := HA.out
         clear HA
         simp only [cohousingref05_Least.l1] at H
         by_cases c43 : (wrap64 (x17_4 - x16_4)) > 1
         rotate_left
         ·rw [if_neg c43] at H
          have c43b0 : decide (1 < (wrap64 (x17_4 - x16_4))) = false := decide_eq_false c43
          clear c43
          by_cases c56 : x17_4 < x11_12
          rotate_left
          ·rw [if_neg c56] at H
           have c56b0 : decide (x17_4 < x11_12) = false := decide_eq_false c56
           clear c56
           have H' := mk_ H
           clear H
           go_wp2
           go_roundg k4
           case measure => have := HJ4.out; have := HK2.out; have := HJ12.out; have := HK4.out; omega
           case rel => exact ⟨(y442), (wrap64 (x10_2 + 1)), sd_, H', ⟨by have := HJ4.out; have := HK2.out; have := HJ12.out; have := HK4.out; omega⟩, ⟨by (with_reducible repeat (first | apply Kd.R_alloc | apply Kd.R_drewN | apply Kd.R_drew)); exact Kd.R_mono HO_8.out (fun _ hk => trivial)⟩, ⟨rr_ HO_9⟩, ⟨bs2_ HB GE425 GE431⟩⟩
          rw [if_pos c56] at H
          have c56b0 : decide (x17_4 < x11_12) = true := decide_eq_true c56
          clear c56
          replace H := Option.bind_eq_some_iff.mp H
          obtain ⟨⟨t445, t446, t447, t448, t449⟩, A570, H⟩ := H
          replace H : (if y442.length < 3518437208883 then (cohousingref05_Least.l0 k4 l0 l1 (y442 ++ [(⟨t445, (⟨t446, t447⟩ : S24), (⟨t448, t449⟩ : S24)⟩ : S51)]) t411 (wrap64 (x10_2 + 1))) else (none)) = some (r1, r2) := H
          have A57 := mk_ A570
          clear A570
          by_cases c58 : y442.length < 3518437208883
          rotate_left
          ·rw [if_neg c58] at H
           exact absurd H (by simp)
          rw [if_pos c58] at H
          have LMc58 := mk_ c58
          clear c58
          obtain ⟨y450, hy450⟩ : ∃ y_ : List (S51), y_ = (y442 ++ [(⟨t445, (⟨t446, t447⟩ : S24), (⟨t448, t449⟩ : S24)⟩ : S51)]) := ⟨_, rfl⟩
          replace H : (cohousingref05_Least.l0 k4 l0 l1 y450 t411 (wrap64 (x10_2 + 1))) = some (r1, r2) := by first | (rw [hy450]; with_reducible exact H) | (have H2_ := (Option.bind_some _ _).symm.trans H; rw [hy450]; with_reducible exact H2_) | (have H2_ := (Option.bind_some _ _).symm.trans H; with_reducible exact H2_) | with_reducible exact H | (rw [hy450]; exact H) | exact H
          have Ny450 := mk_ hy450
          clear hy450
          have H' := mk_ H
          clear H
          have hnb59 := NB425_431.out
          have hnc59 := NB431_425.out
          have hcz60_0 := bc0_ BK425.out
          have hcz60_1 := bc1_ BK425.out
          have hcz60_2 := bc2_ BK425.out
          have hcz60_3 : wr.cell? ⟨gb425, 3, none⟩ = some (.int .i64 t423) := (blk_cell BK425.out 3).trans rfl
          have hcz60_4 : wr.cell? ⟨gb425, 4, none⟩ = some (.int .i64 t424) := (blk_cell BK425.out 4).trans rfl
          have hfz60_0 := blk_frozen BK425.out 0
          have hfz60_1 := blk_frozen BK425.out 1
          have hfz60_2 := blk_frozen BK425.out 2
          have hfz60_3 := blk_frozen BK425.out 3
          have hfz60_4 := blk_frozen BK425.out 4
          have hcz61_0 := bc0_ BK431.out
          have hcz61_1 := bc1_ BK431.out
          have hcz61_2 := bc2_ BK431.out
          have hcz61_3 : wr.cell? ⟨gb431, 3, none⟩ = some (.int .i64 t429) := (blk_cell BK431.out 3).trans rfl
          have hcz61_4 : wr.cell? ⟨gb431, 4, none⟩ = some (.int .i64 t430) := (blk_cell BK431.out 4).trans rfl
          have hfz61_0 := blk_frozen BK431.out 0
          have hfz61_1 := blk_frozen BK431.out 1
          have hfz61_2 := blk_frozen BK431.out 2
          have hfz61_3 := blk_frozen BK431.out 3
          have hfz61_4 := blk_frozen BK431.out 4
          go_wp2_with (first | ((with_reducible refine gate_callee (f := 52) rfl ?_); refine gl_ (some 109) Try.func52 #[.agg #[.int .i64 t420, .int .i64 t421, .int .i64 t422, .int .i64 t423, .int .i64 t424], .agg #[.int .i64 t426, .int .i64 t427, .int .i64 t428, .int .i64 t429, .int .i64 t430], .bool (!(decide (t436 ≤ 0))), .int .i64 x17_4] ?_; (with_reducible refine (cohousingref05_taken.calls k4 t420 t421 t422 t423 t424 t426 t427 t428 t429 t430 (!(decide (t436 ≤ 0))) x17_4 t445 t446 t447 t448 t449 _ A57.out).mono ?_); rintro e w62 ⟨rfl, hb⟩; refine ⟨_, rfl, ?_⟩; replace HO_8 := mk_ (Kd.R_below (rr_ HO_8) hb); replace HO_9 := mk_ (Kd.R_below (rr_ HO_9) hb); replace BK425 := mk_ (blk_below (kk_ BK425) hb); replace BK431 := mk_ (blk_below (kk_ BK431) hb); replace HB := mk_ (below_step (bs2_ HB GE425 GE431) hb); (try clear hb)) | ((with_reducible refine gate_builtin (b := .append) (xs := #[.tmp 103, .tmp 110]) rfl ?_); at_builtin; refine Kd.R_append k51 (w0 := w) w.heap.size rfl (.tmp 103) (.tmp 110) 22 51 (.agg #[(.int .i64 0), (.int .i64 0), (.int .i64 0), (.int .i64 0), (.int .i64 0)]) 40 rfl Try.underlying22 info51 rfl (by decide) (by omega) v443 y442 (⟨t445, (⟨t446, t447⟩ : S24), (⟨t448, t449⟩ : S24)⟩ : S51) [.int .i64 t445, .int .i64 t446, .int .i64 t447, .int .i64 t448, .int .i64 t449] (fun k_ => k_ ≠ gb425 ∧ k_ ≠ gb431) (fun _ => False) rfl rfl ?aP (fun _ hk => hk.elim) ?aF ?aO ?aB ?aS ?aL ?_; (case aP => exact k51_mkM _ _ _ (⟨t445, (⟨t446, t447⟩ : S24), (⟨t448, t449⟩ : S24)⟩ : S51)); (case aB => exact (bs2_ HB GE425 GE431)); (case aF => exact (fun k_ hk => ⟨Kd.freshB (g := gb425) (o := .cells #[.int .i64 t420, .int .i64 t421, .int .i64 t422, .int .i64 t423, .int .i64 t424] 51 (0, 0)) (kk_ BK425) k_ hk, Kd.freshB (g := gb431) (o := .cells #[.int .i64 t426, .int .i64 t427, .int .i64 t428, .int .i64 t429, .int .i64 t430] 51 (0, 0)) (kk_ BK431) k_ hk⟩)); (case aO => exact (rr_ HO_8)); (case aS => exact (below_size (bs2_ HB GE425 GE431))); (case aL => have := LMc58.out; omega); intro v451 w63 ho hb hg hat; rw [← Ny450.out] at ho; have n0_ := mk_ (Kd.R_over' (rr_ HO_9) (Kd.R_typed (rr_ HO_8)) (by decide) hg); have n1_ := mk_ (blk_grown (kk_ BK425) hg (Kd.R_away HO_8.out (fun _ hk => hk.1))); have n2_ := mk_ (blk_grown (kk_ BK431) hg (Kd.R_away HO_8.out (fun _ hk => hk.2))); have n3_ := mk_ (hb); have n4_ := mk_ (ho); clear HO_9 BK425 BK431 HB HO_8; revert n0_ n1_ n2_ n3_ n4_; intro HO_9 BK425 BK431 HB HO452; clear ho hb hg hat))
          go_roundg k4
          case measure => have := HJ4.out; have := HK2.out; have := HJ12.out; have := HK4.out; omega
          case rel => exact ⟨(y450), (wrap64 (x10_2 + 1)), sd_, H', ⟨by have := HJ4.out; have := HK2.out; have := HJ12.out; have := HK4.out; omega⟩, ⟨by (with_reducible repeat (first | apply Kd.R_alloc | apply Kd.R_drewN | apply Kd.R_drew)); exact Kd.R_mono HO452.out (fun _ hk => trivial)⟩, ⟨rr_ HO_9⟩, ⟨bs2_ HB GE425 GE431⟩⟩
         rw [if_pos c43] at H
         have c43b0 : decide (1 < (wrap64 (x17_4 - x16_4))) = true := decide_eq_true c43
         clear c43
         replace H := Option.bind_eq_some_iff.mp H
         obtain ⟨⟨t453, t454⟩, A440, H⟩ := H
         replace H : ((cohousingref05_Line.f k4 t426 t427 t428 t429 t430 (wrap64 (Int.tdiv (wrap64 (x16_4 + x17_4)) 2))).bind fun bt455 => ((cohousingref05_Compare.f t453 t454 bt455.1 bt455.2).bind fun t457 => (if ((decide (t457 ≤ 0)) == (decide (t436 ≤ 0))) = true then (cohousingref05_Least.l1 k4 l0 l1 y442 t411 x10_2 x11_12 (decide (t436 ≤ 0)) (wrap64 (Int.tdiv (wrap64 (x16_4 + x17_4)) 2)) x17_4 t420 t421 t422 t423 t424 t426 t427 t428 t429 t430) else (cohousingref05_Least.l1 k4 l0 l1 y442 t411 x10_2 x11_12 (decide (t436 ≤ 0)) x16_4 (wrap64 (Int.tdiv (wrap64 (x16_4 + x17_4)) 2)) t420 t421 t422 t423 t424 t426 t427 t428 t429 t430)))) = some (r1, r2) := H
         have A44 := mk_ A440
         clear A440
         replace H := Option.bind_eq_some_iff.mp H
         obtain ⟨⟨t455, t456⟩, A450, H⟩ := H
         replace H : ((cohousingref05_Compare.f t453 t454 t455 t456).bind fun t457 => (if ((decide (t457 ≤ 0)) == (decide (t436 ≤ 0))) = true then (cohousingref05_Least.l1 k4 l0 l1 y442 t411 x10_2 x11_12 (decide (t436 ≤ 0)) (wrap64 (Int.tdiv (wrap64 (x16_4 + x17_4)) 2)) x17_4 t420 t421 t422 t423 t424 t426 t427 t428 t429 t430) else (cohousingref05_Least.l1 k4 l0 l1 y442 t411 x10_2 x11_12 (decide (t436 ≤ 0)) x16_4 (wrap64 (Int.tdiv (wrap64 (x16_4 + x17_4)) 2)) t420 t421 t422 t423 t424 t426 t427 t428 t429 t430))) = some (r1, r2) := H
         have A45 := mk_ A450
         clear A450
         replace H := Option.bind_eq_some_iff.mp H
         obtain ⟨t457, A460, H⟩ := H
         replace H : (if ((decide (t457 ≤ 0)) == (decide (t436 ≤ 0))) = true then (cohousingref05_Least.l1 k4 l0 l1 y442 t411 x10_2 x11_12 (decide (t436 ≤ 0)) (wrap64 (Int.tdiv (wrap64 (x16_4 + x17_4)) 2)) x17_4 t420 t421 t422 t423 t424 t426 t427 t428 t429 t430) else (cohousingref05_Least.l1 k4 l0 l1 y442 t411 x10_2 x11_12 (decide (t436 ≤ 0)) x16_4 (wrap64 (Int.tdiv (wrap64 (x16_4 + x17_4)) 2)) t420 t421 t422 t423 t424 t426 t427 t428 t429 t430)) = some (r1, r2) := H
         have A46 := mk_ A460
         clear A460
         have Hmc47_ := mk_ H
         clear H
         try go_wp2
         replace HO_8 := mk_ (Kd.R_drew HO_8.out)
         replace HO_9 := mk_ (Kd.R_drew HO_9.out)
         replace BK425 := mk_ (blk_drew BK425.out)
         replace BK431 := mk_ (blk_drew BK431.out)
         replace HB := mk_ (below_drew1 HB.out)
         refine start_ (n := 9) (S := fun w' => w'.cell? ⟨gb425, 0, none⟩ = some (.int .i64 t420) ∧ w'.cell? ⟨gb425, 1, none⟩ = some (.int .i64 t421) ∧ w'.cell? ⟨gb425, 2, none⟩ = some (.int .i64 t422) ∧ w'.cell? ⟨gb425, 3, none⟩ = some (.int .i64 t423) ∧ w'.cell? ⟨gb425, 4, none⟩ = some (.int .i64 t424) ∧ w'.cell? ⟨gb431, 0, none⟩ = some (.int .i64 t426) ∧ w'.cell? ⟨gb431, 1, none⟩ = some (.int .i64 t427) ∧ w'.cell? ⟨gb431, 2, none⟩ = some (.int .i64 t428) ∧ w'.cell? ⟨gb431, 3, none⟩ = some (.int .i64 t429) ∧ w'.cell? ⟨gb431, 4, none⟩ = some (.int .i64 t430)) (ds := []) #[n_, n_, n_, n_, n_, n_, n_, n_, n_] (by kernel_rfl) rfl rfl ⟨(blk_cell BK425.out 0).trans rfl, (blk_cell BK425.out 1).trans rfl, (blk_cell BK425.out 2).trans rfl, (blk_cell BK425.out 3).trans rfl, (blk_cell BK425.out 4).trans rfl, (blk_cell BK431.out 0).trans rfl, (blk_cell BK431.out 1).trans rfl, (blk_cell BK431.out 2).trans rfl, (blk_cell BK431.out 3).trans rfl, (blk_cell BK431.out 4).trans rfl⟩ (fun hHeld => ?_); refine with_tabW cohousingref05_Least.tab22 cohousingref05_Least.bits22 (fun HT_ HW_ => ?_)
         generalize wr.drew = w48 at HO_8 HO_9 BK425 BK431 HB hHeld ⊢
         refine pu_ 1 88 (w_ 9 2) rfl HT_ ?_
         refine pu_ 4 91 (w_ 9 18) rfl HT_ ?_
         refine ta_ 0 87 (w_ 9 19) rfl HT_ HW_ hHeld (by rintro w' ⟨s0, s1, s2, s3, s4, s5, s6, s7, s8, s9⟩; go_simp; with_reducible rfl) ?_
         refine ta_ 3 90 (w_ 9 27) rfl HT_ HW_ hHeld (by rintro w' ⟨s0, s1, s2, s3, s4, s5, s6, s7, s8, s9⟩; go_simp; with_reducible rfl) ?_
         refine one_ (i := 2) (N := some 89) (w_ 9 31) rfl rfl (one_of HT_.out (by kernel_rfl)) (by decide) (fun K hK => ?_)
         refine goes_ Try.func44 (by kernel_rfl) rfl #[.agg #[.int .i64 t420, .int .i64 t421, .int .i64 t422, .int .i64 t423, .int .i64 t424], .int .i64 (wrap64 (Int.tdiv (wrap64 (x16_4 + x17_4)) 2))] (by rfl) rfl rfl (by (try simp only [List.map_toArray, List.map_cons, List.map_nil]); first | done | rfl | (simp only [List.length_drop, List.length_take]; rfl)) ?_
         with_reducible refine (cohousingref05_Line.calls k4 t420 t421 t422 t423 t424 (wrap64 (Int.tdiv (wrap64 (x16_4 + x17_4)) 2)) t453 t454 _ A44.out).mono ?_
         rintro e w49 ⟨rfl, hb⟩
         refine ⟨_, rfl, ?_⟩
         replace HO_8 := mk_ (Kd.R_below (rr_ HO_8) hb)
         replace HO_9 := mk_ (Kd.R_below (rr_ HO_9) hb)
         replace BK425 := mk_ (blk_below (kk_ BK425) hb)
         replace BK431 := mk_ (blk_below (kk_ BK431) hb)
         replace HB := mk_ (below_step (bs2_ HB GE425 GE431) hb)
         (try clear hb)
         refine hK.out _ _ ⟨(blk_cell BK425.out 0).trans rfl, (blk_cell BK425.out 1).trans rfl, (blk_cell BK425.out 2).trans rfl, (blk_cell BK425.out 3).trans rfl, (blk_cell BK425.out 4).trans rfl, (blk_cell BK431.out 0).trans rfl, (blk_cell BK431.out 1).trans rfl, (blk_cell BK431.out 2).trans rfl, (blk_cell BK431.out 3).trans rfl, (blk_cell BK431.out 4).trans rfl⟩ (fun hHeld => ?_)
         clear hK K
         refine norm_ (a' := ?_) ?_ ?_
         rotate_left
         ·show Act.put _ (some 89) _ = _
          simp only [Act.put, sI_, s0_, sS_, i64_w, i32_w]
          rfl
         refine one_ (i := 5) (N := some 92) (w_ 9 63) rfl rfl (one_of HT_.out (by kernel_rfl)) (by decide) (fun K hK => ?_)
         refine goes_ Try.func44 (by kernel_rfl) rfl #[.agg #[.int .i64 t426, .int .i64 t427, .int .i64 t428, .int .i64 t429, .int .i64 t430], .int .i64 (wrap64 (Int.tdiv (wrap64 (x16_4 + x17_4)) 2))] (by rfl) rfl rfl (by (try simp only [List.map_toArray, List.map_cons, List.map_nil]); first | done | rfl | (simp only [List.length_drop, List.length_take]; rfl)) ?_
         with_reducible refine (cohousingref05_Line.calls k4 t426 t427 t428 t429 t430 (wrap64 (Int.tdiv (wrap64 (x16_4 + x17_4)) 2)) t455 t456 _ A45.out).mono ?_
         rintro e w50 ⟨rfl, hb⟩
         refine ⟨_, rfl, ?_⟩
         replace HO_8 := mk_ (Kd.R_below (rr_ HO_8) hb)
         replace HO_9 := mk_ (Kd.R_below (rr_ HO_9) hb)
         replace BK425 := mk_ (blk_below (kk_ BK425) hb)
         replace BK431 := mk_ (blk_below (kk_ BK431) hb)
         replace HB := mk_ (below_step (bs2_ HB GE425 GE431) hb)
         (try clear hb)
         refine hK.out _ _ ⟨(blk_cell BK425.out 0).trans rfl, (blk_cell BK425.out 1).trans rfl, (blk_cell BK425.out 2).trans rfl, (blk_cell BK425.out 3).trans rfl, (blk_cell BK425.out 4).trans rfl, (blk_cell BK431.out 0).trans rfl, (blk_cell BK431.out 1).trans rfl, (blk_cell BK431.out 2).trans rfl, (blk_cell BK431.out 3).trans rfl, (blk_cell BK431.out 4).trans rfl⟩ (fun hHeld => ?_)
         clear hK K
         refine norm_ (a' := ?_) ?_ ?_
         rotate_left
         ·show Act.put _ (some 92) _ = _
          simp only [Act.put, sI_, s0_, sS_, i64_w, i32_w]
          rfl
         refine one_ (i := 6) (N := some 93) (w_ 9 127) rfl rfl (one_of HT_.out (by kernel_rfl)) (by decide) (fun K hK => ?_)
         refine goes_ Try.func29 (by kernel_rfl) rfl #[.agg #[.int .i64 t453, .int .i64 t454], .agg #[.int .i64 t455, .int .i64 t456]] (by rfl) rfl rfl (by (try simp only [List.map_toArray, List.map_cons, List.map_nil]); first | done | rfl | (simp only [List.length_drop, List.length_take]; rfl)) ?_
         with_reducible refine (cohousingref05_Compare.calls t453 t454 t455 t456 t457 _ A46.out).mono ?_
         rintro e w51 ⟨rfl, hb⟩
         refine ⟨_, rfl, ?_⟩
         replace HO_8 := mk_ (Kd.R_below (rr_ HO_8) hb)
         replace HO_9 := mk_ (Kd.R_below (rr_ HO_9) hb)
         replace BK425 := mk_ (blk_below (kk_ BK425) hb)
         replace BK431 := mk_ (blk_below (kk_ BK431) hb)
         replace HB := mk_ (below_step (bs2_ HB GE425 GE431) hb)
         (try clear hb)
         refine hK.out _ _ ⟨(blk_cell BK425.out 0).trans rfl, (blk_cell BK425.out 1).trans rfl, (blk_cell BK425.out 2).trans rfl, (blk_cell BK425.out 3).trans rfl, (blk_cell BK425.out 4).trans rfl, (blk_cell BK431.out 0).trans rfl, (blk_cell BK431.out 1).trans rfl, (blk_cell BK431.out 2).trans rfl, (blk_cell BK431.out 3).trans rfl, (blk_cell BK431.out 4).trans rfl⟩ (fun hHeld => ?_)
         clear hK K
         refine norm_ (a' := ?_) ?_ ?_
         rotate_left
         ·show Act.put _ (some 93) _ = _
          simp only [Act.put, sI_, s0_, sS_, i64_w, i32_w]
          rfl
         refine pu_ 7 94 (w_ 9 255) rfl HT_ ?_
         refine pu_ 8 19 (w_ 9 511) rfl HT_ ?_
         refine done_ (done_of HT_.out (by kernel_rfl)) ?_
         have H := Hmc47_.out
         clear Hmc47_
         by_cases c47 : ((decide (t457 ≤ 0)) == (decide (t436 ≤ 0))) = true
         ·rw [if_pos c47] at H
          have c47b0 : ((decide (t457 ≤ 0)) == (decide (t436 ≤ 0))) = true := c47
          (try (have c47b1 : decide ((decide (t457 ≤ 0)) = (decide (t436 ≤ 0))) = true := by simpa using c47))
          (try (have c47b2 : ((decide (t457 ≤ 0)) == (decide (t436 ≤ 0))) = true := by simpa using c47))
          clear c47
          have H' := mk_ H
          clear H
          try go_wp2
          go_roundg k4
          case measure => have := HJ4.out; have := HK2.out; have := HJ12.out; have := HK4.out; omega
          case rel => exact ⟨(wrap64 (Int.tdiv (wrap64 (x16_4 + x17_4)) 2)), (x17_4), sd_, sd_, H', ⟨by have := HJ4.out; have := HK2.out; have := HJ12.out; have := HK4.out; omega⟩, ⟨rr_ HO_8⟩, ⟨rr_ HO_9⟩, ⟨kk_ BK425⟩, ⟨kk_ BK431⟩, ⟨bs2_ HB GE425 GE431⟩⟩
         rw [if_neg c47] at H
         have c47b0 : ((decide (t457 ≤ 0)) == (decide (t436 ≤ 0))) = false := by simpa using c47
         (try (have c47b1 : decide ((decide (t457 ≤ 0)) = (decide (t436 ≤ 0))) = false := by simpa using c47))
         (try (have c47b2 : ((decide (t457 ≤ 0)) == (decide (t436 ≤ 0))) = false := by simpa using c47))
         (try (have c47b3 : ¬ ((decide (t457 ≤ 0)) = (decide (t436 ≤ 0))) := by simpa using c47))
         clear c47
         have H' := mk_ H
         clear H
         try go_wp2
         go_roundg k4
         case measure => have := HJ4.out; have := HK2.out; have := HJ12.out; have := HK4.out; omega
         case rel => exact ⟨(x16_4), (wrap64 (Int.tdiv (wrap64 (x16_4 + x17_4)) 2)), sd_, sd_, H', ⟨by have := HJ4.out; have := HK2.out; have := HJ12.out; have := HK4.out; omega⟩, ⟨rr_ HO_8⟩, ⟨rr_ HO_9⟩, ⟨kk_ BK425⟩, ⟨kk_ BK431⟩, ⟨bs2_ HB GE425 GE431⟩⟩
end
section
mutual
def cohousingref05_Below.j0 : Nat → List (S51) → List (S51) → Bool → Int → Int → Option (Int × Bool × Int)
 | 0, _, _, _, _, _ => none
 | k + 1, x0, x1, x42, x459000, x459001 => if x42 = true then (some (0, false, 1)) else ((cohousingref05_Starts.f k x0 x1).bind fun t461 => (cohousingref05_Below.l0 k x0 x1 t461 0 x459000 x459001))
def cohousingref05_Below.l0 : Nat → List (S51) → List (S51) → List Int → Int → Int → Int → Option (Int × Bool × Int)
 | 0, _, _, _, _, _, _ => none
 | k + 1, x0, x1, x11, x12, x459000, x459001 => if x12 < (x11.length : Int) then (if 0 ≤ x12 then (if (wrap64 (x12 + 1)) < (x11.length : Int) then (if 0 ≤ (wrap64 (x12 + 1)) then (cohousingref05_Below.j2 k x0 x1 x11 x12 (mx (rd x11 x12) x459000) (mn x459001 (wrap64 ((rd x11 (wrap64 (x12 + 1))) - 1))) x459000 x459001) else (none)) else (cohousingref05_Below.j2 k x0 x1 x11 x12 (mx (rd x11 x12) x459000) x459001 x459000 x459001)) else (none)) else (some (0, false, 0))
def cohousingref05_Below.j2 : Nat → List (S51) → List (S51) → List Int → Int → Int → Int → Int → Int → Option (Int × Bool × Int)
 | 0, _, _, _, _, _, _, _, _ => none
 | k + 1, x0, x1, x11, x12, x13, x14, x459000, x459001 => if x13 > x14 then (cohousingref05_Below.l0 k x0 x1 x11 (wrap64 (x12 + 1)) x459000 x459001) else ((cohousingref05_Value.f k x0 x13).bind fun bt466 => ((cohousingref05_Value.f k x1 x13).bind fun bt468 => ((cohousingref05_Compare.f bt466.1 bt466.2 bt468.1 bt468.2).bind fun t470 => (if t470 < 0 then (some (x13, true, 0)) else ((cohousingref05_Value.f k x0 x14).bind fun bt471 => ((cohousingref05_Value.f k x1 x14).bind fun bt473 => ((cohousingref05_Compare.f bt471.1 bt471.2 bt473.1 bt473.2).bind fun t475 => (if t475 ≥ 0 then (cohousingref05_Below.l0 k x0 x1 x11 (wrap64 (x12 + 1)) x459000 x459001) else (cohousingref05_Below.l1 k x0 x1 x13 x14)))))))))
def cohousingref05_Below.l1 : Nat → List (S51) → List (S51) → Int → Int → Option (Int × Bool × Int)
 | 0, _, _, _, _ => none
 | k + 1, x0, x1, x13, x14 => if (wrap64 (x14 - x13)) > 1 then ((cohousingref05_Value.f k x0 (wrap64 (Int.tdiv (wrap64 (x13 + x14)) 2))).bind fun bt476 => ((cohousingref05_Value.f k x1 (wrap64 (Int.tdiv (wrap64 (x13 + x14)) 2))).bind fun bt478 => ((cohousingref05_Compare.f bt476.1 bt476.2 bt478.1 bt478.2).bind fun t480 => (if t480 < 0 then (cohousingref05_Below.l1 k x0 x1 x13 (wrap64 (Int.tdiv (wrap64 (x13 + x14)) 2))) else (cohousingref05_Below.l1 k x0 x1 (wrap64 (Int.tdiv (wrap64 (x13 + x14)) 2)) x14))))) else (some (x14, true, 0))
end
def cohousingref05_Below.f (k : Nat) (l0 : List (S51)) (l1 : List (S51)) (a2_0 : Int) (a2_1 : Int) : Option (Int × Bool × Int) := (cohousingref05_Valid.f k l0).bind fun t459 => ((cohousingref05_Valid.f k l1).bind fun t460 => (if t459 = true then (if t460 = true then (if a2_0 < 0 then (cohousingref05_Below.j0 k l0 l1 true a2_0 a2_1) else (if a2_0 > a2_1 then (cohousingref05_Below.j0 k l0 l1 true a2_0 a2_1) else (cohousingref05_Below.j0 k l0 l1 (decide (a2_1 > 100000)) a2_0 a2_1))) else (cohousingref05_Below.j0 k l0 l1 true a2_0 a2_1)) else (cohousingref05_Below.j0 k l0 l1 true a2_0 a2_1)))
theorem cohousingref05_Below.calls (k : Nat) (A0 : Option Addr) (c0 : Nat) (l0 : List (S51)) (A1 : Option Addr) (c1 : Nat) (l1 : List (S51)) (a2_0 : Int) (a2_1 : Int) (r1 : Int) (r2 : Bool) (r3 : Int) (w : World) (hr0 : Kd.C k51 w A0 l0.length l0) (hc0 : l0.length ≤ c0) (hr1 : Kd.C k51 w A1 l1.length l1) (hc1 : l1.length ≤ c1) (h : cohousingref05_Below.f k l0 l1 a2_0 a2_1 = some (r1, r2, r3)) :
  Calls Try.prog 24 #[.slice A0 l0.length c0, .slice A1 l1.length c1, .agg #[.int .i64 a2_0, .int .i64 a2_1]] w fun e w' => e = .returned (.tuple #[.int .i64 r1, .bool r2, .int .i64 r3]) ∧ Below w.heap.size w w' := by
 have hu26 := Try.underlying26
 have HR0 := mk_ hr0
 have HC0 := mk_ hc0
 clear hr0 hc0
 have HR1 := mk_ hr1
 have HC1 := mk_ hc1
 clear hr1 hc1
 have HB := mk_ (Below.refl w.heap.size w)
 have H : ((cohousingref05_Valid.f k l0).bind fun t459 => ((cohousingref05_Valid.f k l1).bind fun t460 => (if t459 = true then (if t460 = true then (if a2_0 < 0 then (cohousingref05_Below.j0 k l0 l1 true a2_0 a2_1) else (if a2_0 > a2_1 then (cohousingref05_Below.j0 k l0 l1 true a2_0 a2_1) else (cohousingref05_Below.j0 k l0 l1 (decide (a2_1 > 100000)) a2_0 a2_1))) else (cohousingref05_Below.j0 k l0 l1 true a2_0 a2_1)) else (cohousingref05_Below.j0 k l0 l1 true a2_0 a2_1)))) = some (r1, r2, r3) := h
 clear h
 replace H := Option.bind_eq_some_iff.mp H
 obtain ⟨t459, A40, H⟩ := H
 replace H : ((cohousingref05_Valid.f k l1).bind fun t460 => (if t459 = true then (if t460 = true then (if a2_0 < 0 then (cohousingref05_Below.j0 k l0 l1 true a2_0 a2_1) else (if a2_0 > a2_1 then (cohousingref05_Below.j0 k l0 l1 true a2_0 a2_1) else (cohousingref05_Below.j0 k l0 l1 (decide (a2_1 > 100000)) a2_0 a2_1))) else (cohousingref05_Below.j0 k l0 l1 true a2_0 a2_1)) else (cohousingref05_Below.j0 k l0 l1 true a2_0 a2_1))) = some (r1, r2, r3) := H
 have A4 := mk_ A40
 clear A40
 replace H := Option.bind_eq_some_iff.mp H
 obtain ⟨t460, A50, H⟩ := H
 replace H : (if t459 = true then (if t460 = true then (if a2_0 < 0 then (cohousingref05_Below.j0 k l0 l1 true a2_0 a2_1) else (if a2_0 > a2_1 then (cohousingref05_Below.j0 k l0 l1 true a2_0 a2_1) else (cohousingref05_Below.j0 k l0 l1 (decide (a2_1 > 100000)) a2_0 a2_1))) else (cohousingref05_Below.j0 k l0 l1 true a2_0 a2_1)) else (cohousingref05_Below.j0 k l0 l1 true a2_0 a2_1)) = some (r1, r2, r3) := H
 have A5 := mk_ A50
 clear A50
 have HC6 := mk_ H
 clear H
 go_enter Try.func24, Try.ntmps24
 go_upto_region 3 with (first | ((with_reducible refine gate_dst (N := 5) rfl ?_); refine box_event ?hg (N := 5) ?hd (cs := #[.int .i64 a2_0, .int .i64 a2_1]) (t := 26) ?hr ?_; (case hd => rfl); (case hg => rfl); (case hr => first | (go_simp; done) | (go_simp; rfl)); intro gb458 hg w7 hbox hb; have BK458 := mk_ (hbox); have GW458 := mk_ (bz_ hg (bb_ HB)); have GE458 := mk_ (bz_ hg (bb_ HB)); replace HB := mk_ (below_step (bb_ HB) hb); clear hb hbox hg) | (go_at_call 15; (with_reducible refine (cohousingref05_Valid.calls k _ _ l0 t459 _ ?side1 ?side2 A4.out).mono ?_); (case side1 => exact cc_ ((Kd.C_below HR0.out HB.out))); (case side2 => exact HC0.out); rintro e w8 ⟨rfl, hb⟩; replace BK458 := mk_ (blk_below (kk_ BK458) hb); replace HB := mk_ (below_step (bs_ HB GE458.out) hb); (try clear hb)) | (go_at_call 15; (with_reducible refine (cohousingref05_Valid.calls k _ _ l1 t460 _ ?side1 ?side2 A5.out).mono ?_); (case side1 => exact cc_ ((Kd.C_below HR1.out HB.out))); (case side2 => exact HC1.out); rintro e w9 ⟨rfl, hb⟩; replace BK458 := mk_ (blk_below (kk_ BK458) hb); replace HB := mk_ (below_step (bs_ HB GE458.out) hb); (try clear hb)))
 repeat (go_quiet (first | fail); go_upto_region 3 with (first | fail))
 (try simp only [Act.put, sI_, s0_, sS_])
 go_cut [42] (fun v42 wc => ∃ (kq : Nat) (x42_5 : Bool), v42 = .bool x42_5 ∧ Aside0 (cohousingref05_Below.j0 kq l0 l1 x42_5 a2_0 a2_1 = some (r1, r2, r3)) ∧ Aside0 (kq ≤ k) ∧ Aside0 (wc.heap[gb458]? = some (.cells #[.int .i64 a2_0, .int .i64 a2_1] 26 (0, 0))) ∧ Aside0 (Below w.heap.size w wc))
 case first =>
  have H := HC6.out
  clear HC6
  by_cases c10 : t459 = true
  rotate_left
  ·replace c10 := Bool.eq_false_iff.mpr c10
   subst c10
   have H1 : (cohousingref05_Below.j0 k l0 l1 true a2_0 a2_1) = some (r1, r2, r3) := by rw [if_neg (show ¬ (false = true) by decide)] at H; exact H
   clear H
   have H := H1
   clear H1
   have H' := mk_ H
   clear H
   go_wp2
   repeat (go_quiet (fail); try go_wp2)
   go_meet
   case rel => exact ⟨_, (true), sd_, H', ⟨by first | omega | exact Nat.le_refl _⟩, ⟨kk_ BK458⟩, ⟨bs1_ HB GE458⟩⟩
  subst c10
  have H1 : (if t460 = true then (if a2_0 < 0 then (cohousingref05_Below.j0 k l0 l1 true a2_0 a2_1) else (if a2_0 > a2_1 then (cohousingref05_Below.j0 k l0 l1 true a2_0 a2_1) else (cohousingref05_Below.j0 k l0 l1 (decide (a2_1 > 100000)) a2_0 a2_1))) else (cohousingref05_Below.j0 k l0 l1 true a2_0 a2_1)) = some (r1, r2, r3) := by rw [if_pos rfl] at H; exact H
  clear H
  have H := H1
  clear H1
  by_cases c11 : t460 = true
  rotate_left
  ·replace c11 := Bool.eq_false_iff.mpr c11
   subst c11
   have H1 : (cohousingref05_Below.j0 k l0 l1 true a2_0 a2_1) = some (r1, r2, r3) := by rw [if_neg (show ¬ (false = true) by decide)] at H; exact H
   clear H
   have H := H1
   clear H1
   have H' := mk_ H
   clear H
   go_wp2
   repeat (go_quiet (fail); try go_wp2)
   go_meet
   case rel => exact ⟨_, (true), sd_, H', ⟨by first | omega | exact Nat.le_refl _⟩, ⟨kk_ BK458⟩, ⟨bs1_ HB GE458⟩⟩
  subst c11
  have H1 : (if a2_0 < 0 then (cohousingref05_Below.j0 k l0 l1 true a2_0 a2_1) else (if a2_0 > a2_1 then (cohousingref05_Below.j0 k l0 l1 true a2_0 a2_1) else (cohousingref05_Below.j0 k l0 l1 (decide (a2_1 > 100000)) a2_0 a2_1))) = some (r1, r2, r3) := by rw [if_pos rfl] at H; exact H
  clear H
  have H := H1
  clear H1
  by_cases c12 : a2_0 < 0
  ·rw [if_pos c12] at H
   have c12b0 : decide (a2_0 < 0) = true := decide_eq_true c12
   clear c12
   (first | rw [c12b0] | (simp only [i64_w, i32_w]; rw [c12b0]) | skip)
   have H' := mk_ H
   clear H
   have hcz13_0 := bc0_ BK458.out
   have hcz13_1 := bc1_ BK458.out
   have hfz13_0 := blk_frozen BK458.out 0
   have hfz13_1 := blk_frozen BK458.out 1
   go_wp2
   repeat (go_quiet (fail); try go_wp2)
   go_meet
   case rel => exact ⟨_, (true), sd_, H', ⟨by first | omega | exact Nat.le_refl _⟩, ⟨kk_ BK458⟩, ⟨bs1_ HB GE458⟩⟩
  rw [if_neg c12] at H
  have c12b0 : decide (a2_0 < 0) = false := decide_eq_false c12
  clear c12
  (first | rw [c12b0] | (simp only [i64_w, i32_w]; rw [c12b0]) | skip)
  by_cases c14 : a2_0 > a2_1
  rotate_left
  ·rw [if_neg c14] at H
   have c14b0 : decide (a2_1 < a2_0) = false := decide_eq_false c14
   clear c14
   have H' := mk_ H
   clear H
   have hcz16_0 := bc0_ BK458.out
   have hcz16_1 := bc1_ BK458.out
   have hfz16_0 := blk_frozen BK458.out 0
   have hfz16_1 := blk_frozen BK458.out 1
   go_wp2
   repeat (go_quiet (fail); try go_wp2)
   go_meet
   case rel => exact ⟨_, (decide (a2_1 > 100000)), sd_, H', ⟨by first | omega | exact Nat.le_refl _⟩, ⟨kk_ BK458⟩, ⟨bs1_ HB GE458⟩⟩
  rw [if_pos c14] at H
  have c14b0 : decide (a2_1 < a2_0) = true := decide_eq_true c14
  clear c14
  have H' := mk_ H
  clear H
  have hcz15_0 := bc0_ BK458.out
  have hcz15_1 := bc1_ BK458.out
  have hfz15_0 := blk_frozen BK458.out 0
  have hfz15_1 := blk_frozen BK458.out 1
  go_wp2
  repeat (go_quiet (fail); try go_wp2)
  go_meet
  case rel => exact ⟨_, (true), sd_, H', ⟨by first | omega | exact Nat.le_refl _⟩, ⟨kk_ BK458⟩, ⟨bs1_ HB GE458⟩⟩
 case rest =>
  clear HC6
  obtain ⟨kq, x42_5, rfl, HA, HJ5, BK458, HB⟩ := hcut
  cases kq with
  | zero => exact absurd HA.out (by simp [cohousingref05_Below.j0])
  | succ kj5 =>
   have H := HA.out
   clear HA
   simp only [cohousingref05_Below.j0] at H
   by_cases c17 : x42_5 = true
   ·subst c17
    have H1 : (some (0, false, 1)) = some (r1, r2, r3) := by rw [if_pos rfl] at H; exact H
    clear H
    have H := H1
    clear H1
    simp only [Option.some.injEq, Prod.mk.injEq] at H
    obtain ⟨rfl, rfl, rfl⟩ := H
    go_wp2
    repeat (go_quiet (fail); try go_wp2)
    go_ret3
    exact ⟨ew_, bs1_ HB GE458⟩
   replace c17 := Bool.eq_false_iff.mpr c17
   subst c17
   have H1 : ((cohousingref05_Starts.f kj5 l0 l1).bind fun t461 => (cohousingref05_Below.l0 kj5 l0 l1 t461 0 a2_0 a2_1)) = some (r1, r2, r3) := by rw [if_neg (show ¬ (false = true) by decide)] at H; exact H
   clear H
   have H := H1
   clear H1
   replace H := Option.bind_eq_some_iff.mp H
   obtain ⟨t461, A180, H⟩ := H
   replace H : (cohousingref05_Below.l0 kj5 l0 l1 t461 0 a2_0 a2_1) = some (r1, r2, r3) := H
   have A18 := mk_ A180
   clear A180
   have H' := mk_ H
   clear H
   go_wp2_with (first | (go_at_call 42; (with_reducible refine (cohousingref05_Starts.calls kj5 _ _ l0 _ _ l1 t461 _ ?side1 ?side2 ?side3 ?side4 A18.out).mono ?_); (case side1 => exact cc_ ((Kd.C_below HR0.out HB.out))); (case side2 => exact HC0.out); (case side3 => exact cc_ ((Kd.C_below HR1.out HB.out))); (case side4 => exact HC1.out); rintro e w19 ⟨v462, rfl, ho0, hb⟩; have HO463 := mk_ (Kd.R_lower ho0 (below_size (bs_ HB GE458.out))); replace BK458 := mk_ (blk_below (kk_ BK458) hb); replace HB := mk_ (below_step (bs_ HB GE458.out) hb); (try clear hb); (try clear ho0)))
   repeat (go_quiet (first | fail); try go_wp2_with (first | fail))
   go_loopg [12] kj5 (fun kq v12 w' => ∃ (x12_2 : Int), v12 = .int .i64 x12_2 ∧ Aside0 (cohousingref05_Below.l0 kq l0 l1 t461 x12_2 a2_0 a2_1 = some (r1, r2, r3)) ∧ Aside0 (kq ≤ kj5) ∧ Aside0 (Kd.R (Kd.int .i64) 3 w' w.heap.size (fun _ => True) v462 t461) ∧ Aside0 (w'.heap[gb458]? = some (.cells #[.int .i64 a2_0, .int .i64 a2_1] 26 (0, 0))) ∧ Aside0 (Below w.heap.size w w'))
   case atStart => exact ⟨(0), sd_, H', ⟨Nat.le_refl _⟩, ⟨rr_ HO463⟩, ⟨kk_ BK458⟩, ⟨bs1_ HB GE458⟩⟩
   case round =>
    clear H'
    obtain ⟨x12_2, rfl, HA, HK2, HO_11, BK458, HB⟩ := hrel
    cases gk with
    | zero => exact absurd HA.out (by simp [cohousingref05_Below.l0])
    | succ k2 =>
     have H := HA.out
     clear HA
     simp only [cohousingref05_Below.l0] at H
     by_cases c20 : x12_2 < (t461.length : Int)
     rotate_left
     ·rw [if_neg c20] at H
      have c20b0 : decide (x12_2 < (t461.length : Int)) = false := decide_eq_false c20
      clear c20
      simp only [Option.some.injEq, Prod.mk.injEq] at H
      obtain ⟨rfl, rfl, rfl⟩ := H
      obtain ⟨Ao65, co65, eo65⟩ := Kd.R_slice HO_11.out
      subst eo65
      go_wp2
      repeat (go_quiet (fail); try go_wp2)
      go_ret3
      exact ⟨ew_, bs1_ HB GE458⟩
     rw [if_pos c20] at H
     have c20b0 : decide (x12_2 < (t461.length : Int)) = true := decide_eq_true c20
     clear c20
     by_cases c21 : 0 ≤ x12_2
     rotate_left
     ·rw [if_neg c21] at H
      exact absurd H (by simp)
     rw [if_pos c21] at H
     have c21b0 : decide (0 ≤ x12_2) = true := decide_eq_true c21
     clear c21
     obtain ⟨ji22, hji22⟩ : ∃ j_ : Int, (mx (rd t461 x12_2) a2_0) = j_ := ⟨_, rfl⟩
     replace H : (if (wrap64 (x12_2 + 1)) < (t461.length : Int) then (if 0 ≤ (wrap64 (x12_2 + 1)) then (cohousingref05_Below.j2 k2 l0 l1 t461 x12_2 ji22 (mn a2_1 (wrap64 ((rd t461 (wrap64 (x12_2 + 1))) - 1))) a2_0 a2_1) else (none)) else (cohousingref05_Below.j2 k2 l0 l1 t461 x12_2 ji22 a2_1 a2_0 a2_1)) = some (r1, r2, r3) := by first | (rw [hji22] at H; exact H) | (simp only [hji22] at H ⊢; exact H)
     have hji22_ : (if (rd t461 x12_2) < a2_0 then a2_0 else (rd t461 x12_2)) = ji22 := hji22
     have HC23 := mk_ H
     clear H
     obtain ⟨Ao24, co24, eo24⟩ := Kd.R_slice HO_11.out
     subst eo24
     have p464 : 0 ≤ (x12_2 : Int) := od_
     have q464 : x12_2 < (t461.length : Int) := od_
     obtain ⟨ad464, e464, hx464_0⟩ := Kd.at_int (Kd.R_reads' HO_11.out).2.2 x12_2 p464 q464
     cases e464
     replace p464 := eq_true p464
     replace q464 := eq_true q464
     have hcz25_0 := bc0_ BK458.out
     have hcz25_1 := bc1_ BK458.out
     have hfz25_0 := blk_frozen BK458.out 0
     have hfz25_1 := blk_frozen BK458.out 1
     go_upto_if 65 with (fail)
     repeat (go_quiet (fail); go_upto_if 65 with (fail))
     go_cut [14] (fun v14 wc => ∃ (kq : Nat) (x14_22 : Int), v14 = .int .i64 x14_22 ∧ Aside0 (cohousingref05_Below.j2 kq l0 l1 t461 x12_2 ji22 x14_22 a2_0 a2_1 = some (r1, r2, r3)) ∧ Aside0 (kq ≤ k2) ∧ Aside0 (Kd.R (Kd.int .i64) 3 wc w.heap.size (fun _ => True) (.slice (some ad464) t461.length co24) t461) ∧ Aside0 (wc.heap[gb458]? = some (.cells #[.int .i64 a2_0, .int .i64 a2_1] 26 (0, 0))) ∧ Aside0 (Below w.heap.size w wc))
     case first =>
      have H := HC23.out
      clear HC23
      by_cases c26 : (wrap64 (x12_2 + 1)) < (t461.length : Int)
      rotate_left
      ·rw [if_neg c26] at H
       have c26b0 : decide ((wrap64 (x12_2 + 1)) < (t461.length : Int)) = false := decide_eq_false c26
       clear c26
       (first | rw [c26b0] | (simp only [i64_w, i32_w]; rw [c26b0]) | skip)
       have H' := mk_ H
       clear H
       go_wp2
       repeat (go_quiet (fail); try go_wp2)
       go_meet
       case rel => exact ⟨_, (a2_1), sd_, H', ⟨by have := HJ5.out; have := HK2.out; first | omega | exact Nat.le_refl _⟩, ⟨rr_ HO_11⟩, ⟨kk_ BK458⟩, ⟨bs1_ HB GE458⟩⟩
      rw [if_pos c26] at H
      have c26b0 : decide ((wrap64 (x12_2 + 1)) < (t461.length : Int)) = true := decide_eq_true c26
      clear c26
      (first | rw [c26b0] | (simp only [i64_w, i32_w]; rw [c26b0]) | skip)
      obtain ⟨ji27, hji27⟩ : ∃ j_ : Int, (wrap64 (x12_2 + 1)) = j_ := ⟨_, rfl⟩
      replace H : (if 0 ≤ (ji27) then (cohousingref05_Below.j2 k2 l0 l1 t461 x12_2 ji22 (mn a2_1 (wrap64 ((rd t461 (ji27)) - 1))) a2_0 a2_1) else (none)) = some (r1, r2, r3) := by first | (rw [hji27] at H; exact H) | (simp only [hji27] at H ⊢; exact H)
      (try rw [hji27] at c26b0)
      have hji27w : (IntKind.i64.wrap (x12_2 + 1)) = ji27 := (i64_w _).trans hji27
      by_cases c28 : 0 ≤ (ji27)
      rotate_left
      ·rw [if_neg c28] at H
       exact absurd H (by simp)
      rw [if_pos c28] at H
      have c28b0 : decide (0 ≤ (ji27)) = true := decide_eq_true c28
      clear c28
      obtain ⟨ji29, hji29⟩ : ∃ j_ : Int, (mn a2_1 (wrap64 ((rd t461 (ji27)) - 1))) = j_ := ⟨_, rfl⟩
      replace H : (cohousingref05_Below.j2 k2 l0 l1 t461 x12_2 ji22 ji29 a2_0 a2_1) = some (r1, r2, r3) := by first | (rw [hji29] at H; exact H) | (simp only [hji29] at H ⊢; exact H)
      have hji29_ : (if (wrap64 ((rd t461 (ji27)) - 1)) < a2_1 then (wrap64 ((rd t461 (ji27)) - 1)) else a2_1) = ji29 := hji29
      have H' := mk_ H
      clear H
      have p465 : 0 ≤ ((ji27) : Int) := od_
      have q465 : (ji27) < (t461.length : Int) := od_
      obtain ⟨ad465, e465, hx465_0⟩ := Kd.at_int (Kd.R_reads' HO_11.out).2.2 (ji27) p465 q465
      obtain rfl : ad464 = ad465 := (by injection e465)
      replace p465 := eq_true p465
      replace q465 := eq_true q465
      go_wp2
      repeat (go_quiet (fail); try go_wp2)
      go_meet
      case rel => exact ⟨_, (ji29), (by first | rfl | (simp; done) | (simp only [← hji29] <;> (first | rfl | simp)) | (simp [*]; done)), H', ⟨by have := HJ5.out; have := HK2.out; first | omega | exact Nat.le_refl _⟩, ⟨rr_ HO_11⟩, ⟨kk_ BK458⟩, ⟨bs1_ HB GE458⟩⟩
     case rest =>
      clear HC23
      obtain ⟨kq, x14_22, rfl, HA, HJ22, HO_11, BK458, HB⟩ := hcut
      cases kq with
      | zero => exact absurd HA.out (by simp [cohousingref05_Below.j2])
      | succ kj22 =>
       have H := HA.out
       clear HA
       simp only [cohousingref05_Below.j2] at H
       by_cases c30 : ji22 > x14_22
       ·rw [if_pos c30] at H
        have c30b0 : decide (x14_22 < ji22) = true := decide_eq_true c30
        clear c30
        have H' := mk_ H
        clear H
        go_wp2
        repeat (go_quiet (fail); try go_wp2)
        go_roundg kj22
        case measure => have := HJ5.out; have := HK2.out; have := HJ22.out; omega
        case rel => exact ⟨(wrap64 (x12_2 + 1)), sd_, H', ⟨by have := HJ5.out; have := HK2.out; have := HJ22.out; omega⟩, ⟨rr_ HO_11⟩, ⟨kk_ BK458⟩, ⟨bs1_ HB GE458⟩⟩
       rw [if_neg c30] at H
       have c30b0 : decide (x14_22 < ji22) = false := decide_eq_false c30
       clear c30
       replace H := Option.bind_eq_some_iff.mp H
       obtain ⟨⟨t466, t467⟩, A310, H⟩ := H
       replace H : ((cohousingref05_Value.f kj22 l1 ji22).bind fun bt468 => ((cohousingref05_Compare.f t466 t467 bt468.1 bt468.2).bind fun t470 => (if t470 < 0 then (some (ji22, true, 0)) else ((cohousingref05_Value.f kj22 l0 x14_22).bind fun bt471 => ((cohousingref05_Value.f kj22 l1 x14_22).bind fun bt473 => ((cohousingref05_Compare.f bt471.1 bt471.2 bt473.1 bt473.2).bind fun t475 => (if t475 ≥ 0 then (cohousingref05_Below.l0 kj22 l0 l1 t461 (wrap64 (x12_2 + 1)) a2_0 a2_1) else (cohousingref05_Below.l1 kj22 l0 l1 ji22 x14_22)))))))) = some (r1, r2, r3) := H
       have A31 := mk_ A310
       clear A310
       replace H := Option.bind_eq_some_iff.mp H
       obtain ⟨⟨t468, t469⟩, A320, H⟩ := H
       replace H : ((cohousingref05_Compare.f t466 t467 t468 t469).bind fun t470 => (if t470 < 0 then (some (ji22, true, 0)) else ((cohousingref05_Value.f kj22 l0 x14_22).bind fun bt471 => ((cohousingref05_Value.f kj22 l1 x14_22).bind fun bt473 => ((cohousingref05_Compare.f bt471.1 bt471.2 bt473.1 bt473.2).bind fun t475 => (if t475 ≥ 0 then (cohousingref05_Below.l0 kj22 l0 l1 t461 (wrap64 (x12_2 + 1)) a2_0 a2_1) else (cohousingref05_Below.l1 kj22 l0 l1 ji22 x14_22))))))) = some (r1, r2, r3) := H
       have A32 := mk_ A320
       clear A320
       replace H := Option.bind_eq_some_iff.mp H
       obtain ⟨t470, A330, H⟩ := H
       replace H : (if t470 < 0 then (some (ji22, true, 0)) else ((cohousingref05_Value.f kj22 l0 x14_22).bind fun bt471 => ((cohousingref05_Value.f kj22 l1 x14_22).bind fun bt473 => ((cohousingref05_Compare.f bt471.1 bt471.2 bt473.1 bt473.2).bind fun t475 => (if t475 ≥ 0 then (cohousingref05_Below.l0 kj22 l0 l1 t461 (wrap64 (x12_2 + 1)) a2_0 a2_1) else (cohousingref05_Below.l1 kj22 l0 l1 ji22 x14_22)))))) = some (r1, r2, r3) := H
       have A33 := mk_ A330
       clear A330
       by_cases c34 : t470 < 0
       ·rw [if_pos c34] at H
        have c34b0 : decide (t470 < 0) = true := decide_eq_true c34
        clear c34
        simp only [Option.some.injEq, Prod.mk.injEq] at H
        obtain ⟨rfl, rfl, rfl⟩ := H
        go_wp2_with (first | (go_at_call 27; (with_reducible refine (cohousingref05_Value.calls kj22 _ _ l0 ji22 t466 t467 _ ?side1 ?side2 A31.out).mono ?_); (case side1 => exact cc_ ((Kd.C_below HR0.out HB.out))); (case side2 => exact HC0.out); rintro e w35 ⟨rfl, hb⟩; replace HO_11 := mk_ (Kd.R_below (rr_ HO_11) hb); replace BK458 := mk_ (blk_below (kk_ BK458) hb); replace HB := mk_ (below_step (bs_ HB GE458.out) hb); (try clear hb)) | (go_at_call 27; (with_reducible refine (cohousingref05_Value.calls kj22 _ _ l1 ji22 t468 t469 _ ?side1 ?side2 A32.out).mono ?_); (case side1 => exact cc_ ((Kd.C_below HR1.out HB.out))); (case side2 => exact HC1.out); rintro e w36 ⟨rfl, hb⟩; replace HO_11 := mk_ (Kd.R_below (rr_ HO_11) hb); replace BK458 := mk_ (blk_below (kk_ BK458) hb); replace HB := mk_ (below_step (bs_ HB GE458.out) hb); (try clear hb)) | (go_at_call 29; (with_reducible refine (cohousingref05_Compare.calls t466 t467 t468 t469 t470 _ A33.out).mono ?_); rintro e w37 ⟨rfl, hb⟩; replace HO_11 := mk_ (Kd.R_below (rr_ HO_11) hb); replace BK458 := mk_ (blk_below (kk_ BK458) hb); replace HB := mk_ (below_step (bs_ HB GE458.out) hb); (try clear hb)))
        repeat (go_quiet (first | fail); try go_wp2_with (first | fail))
        go_ret3
        exact ⟨by first | rfl | (simp [errW_none, errW_some] <;> rfl) | (simp only [← hji22]; first | rfl | (simp [errW_none, errW_some] <;> rfl)) | (simp [*, errW_none, errW_some] <;> rfl), bs1_ HB GE458⟩
       rw [if_neg c34] at H
       have c34b0 : decide (t470 < 0) = false := decide_eq_false c34
       clear c34
       replace H := Option.bind_eq_some_iff.mp H
       obtain ⟨⟨t471, t472⟩, A380, H⟩ := H
       replace H : ((cohousingref05_Value.f kj22 l1 x14_22).bind fun bt473 => ((cohousingref05_Compare.f t471 t472 bt473.1 bt473.2).bind fun t475 => (if t475 ≥ 0 then (cohousingref05_Below.l0 kj22 l0 l1 t461 (wrap64 (x12_2 + 1)) a2_0 a2_1) else (cohousingref05_Below.l1 kj22 l0 l1 ji22 x14_22)))) = some (r1, r2, r3) := H
       have A38 := mk_ A380
       clear A380
       replace H := Option.bind_eq_some_iff.mp H
       obtain ⟨⟨t473, t474⟩, A390, H⟩ := H
       replace H : ((cohousingref05_Compare.f t471 t472 t473 t474).bind fun t475 => (if t475 ≥ 0 then (cohousingref05_Below.l0 kj22 l0 l1 t461 (wrap64 (x12_2 + 1)) a2_0 a2_1) else (cohousingref05_Below.l1 kj22 l0 l1 ji22 x14_22))) = some (r1, r2, r3) := H
       have A39 := mk_ A390
       clear A390
       replace H := Option.bind_eq_some_iff.mp H
       obtain ⟨t475, A400, H⟩ := H
       replace H : (if t475 ≥ 0 then (cohousingref05_Below.l0 kj22 l0 l1 t461 (wrap64 (x12_2 + 1)) a2_0 a2_1) else (cohousingref05_Below.l1 kj22 l0 l1 ji22 x14_22)) = some (r1, r2, r3) := H
       have A40 := mk_ A400
       clear A400
       by_cases c41 : t475 ≥ 0
       case' _ =>
        rw [if_pos c41] at H
        have c41b0 : decide (0 ≤ t475) = true := decide_eq_true c41
        clear c41
        have H' := mk_ H
        clear H
       rotate_left
       case' _ =>
        rw [if_neg c41] at H
        have c41b0 : decide (0 ≤ t475) = false := decide_eq_false c41
        clear c41
        have H' := mk_ H
        clear H
       rotate_left
       all_goals go_wp2_with (first | (go_at_call 27; (with_reducible refine (cohousingref05_Value.calls kj22 _ _ l0 ji22 t466 t467 _ ?side1 ?side2 A31.out).mono ?_); (case side1 => exact cc_ ((Kd.C_below HR0.out HB.out))); (case side2 => exact HC0.out); rintro e w42 ⟨rfl, hb⟩; replace HO_11 := mk_ (Kd.R_below (rr_ HO_11) hb); replace BK458 := mk_ (blk_below (kk_ BK458) hb); replace HB := mk_ (below_step (bs_ HB GE458.out) hb); (try clear hb)) | (go_at_call 27; (with_reducible refine (cohousingref05_Value.calls kj22 _ _ l1 ji22 t468 t469 _ ?side1 ?side2 A32.out).mono ?_); (case side1 => exact cc_ ((Kd.C_below HR1.out HB.out))); (case side2 => exact HC1.out); rintro e w43 ⟨rfl, hb⟩; replace HO_11 := mk_ (Kd.R_below (rr_ HO_11) hb); replace BK458 := mk_ (blk_below (kk_ BK458) hb); replace HB := mk_ (below_step (bs_ HB GE458.out) hb); (try clear hb)) | (go_at_call 29; (with_reducible refine (cohousingref05_Compare.calls t466 t467 t468 t469 t470 _ A33.out).mono ?_); rintro e w44 ⟨rfl, hb⟩; replace HO_11 := mk_ (Kd.R_below (rr_ HO_11) hb); replace BK458 := mk_ (blk_below (kk_ BK458) hb); replace HB := mk_ (below_step (bs_ HB GE458.out) hb); (try clear hb)) | (go_at_call 27; (with_reducible refine (cohousingref05_Value.calls kj22 _ _ l0 x14_22 t471 t472 _ ?side1 ?side2 A38.out).mono ?_); (case side1 => exact cc_ ((Kd.C_below HR0.out HB.out))); (case side2 => exact HC0.out); rintro e w45 ⟨rfl, hb⟩; replace HO_11 := mk_ (Kd.R_below (rr_ HO_11) hb); replace BK458 := mk_ (blk_below (kk_ BK458) hb); replace HB := mk_ (below_step (bs_ HB GE458.out) hb); (try clear hb)) | (go_at_call 27; (with_reducible refine (cohousingref05_Value.calls kj22 _ _ l1 x14_22 t473 t474 _ ?side1 ?side2 A39.out).mono ?_); (case side1 => exact cc_ ((Kd.C_below HR1.out HB.out))); (case side2 => exact HC1.out); rintro e w46 ⟨rfl, hb⟩; replace HO_11 := mk_ (Kd.R_below (rr_ HO_11) hb); replace BK458 := mk_ (blk_below (kk_ BK458) hb); replace HB := mk_ (below_step (bs_ HB GE458.out) hb); (try clear hb)) | (go_at_call 29; (with_reducible refine (cohousingref05_Compare.calls t471 t472 t473 t474 t475 _ A40.out).mono ?_); rintro e w47 ⟨rfl, hb⟩; replace HO_11 := mk_ (Kd.R_below (rr_ HO_11) hb); replace BK458 := mk_ (blk_below (kk_ BK458) hb); replace HB := mk_ (below_step (bs_ HB GE458.out) hb); (try clear hb)))
       ·repeat (go_quiet (first | fail); try go_wp2_with (first | fail))
        go_roundg kj22
        case measure => have := HJ5.out; have := HK2.out; have := HJ22.out; omega
        case rel => exact ⟨(wrap64 (x12_2 + 1)), sd_, H', ⟨by have := HJ5.out; have := HK2.out; have := HJ22.out; omega⟩, ⟨rr_ HO_11⟩, ⟨kk_ BK458⟩, ⟨bs1_ HB GE458⟩⟩
       ·repeat (go_quiet (first | fail); try go_wp2_with (first | fail))
        go_loopg [13, 14] kj22 (fun kq v13 v14 w' => ∃ (x13_4 : Int) (x14_4 : Int), v13 = .int .i64 x13_4 ∧ v14 = .int .i64 x14_4 ∧ Aside0 (cohousingref05_Below.l1 kq l0 l1 x13_4 x14_4 = some (r1, r2, r3)) ∧ Aside0 (kq ≤ kj22) ∧ Aside0 (w'.heap[gb458]? = some (.cells #[.int .i64 a2_0, .int .i64 a2_1] 26 (0, 0))) ∧ Aside0 (Below w.heap.size w w'))
        case atStart => exact ⟨(ji22), (x14_22), (by first | rfl | (simp; done) | (simp only [← hji22] <;> (first | rfl | simp)) | (simp [*]; done)), sd_, H', ⟨Nat.le_refl _⟩, ⟨kk_ BK458⟩, ⟨bs1_ HB GE458⟩⟩
        case round =>
         clear H'
         obtain ⟨x13_4, x14_4, rfl, rfl, HA, HK4, BK458, HB⟩ := hrel
         cases gk with
         | zero => exact absurd HA.out (by simp [cohousingref05_Below.l1])
         | succ k4 =>
          have H := HA.out
          clear HA
          simp only [cohousingref05_Below.l1] at H
          by_cases c54 : (wrap64 (x14_4 - x13_4)) > 1
          rotate_left
          ·rw [if_neg c54] at H
           have c54b0 : decide (1 < (wrap64 (x14_4 - x13_4))) = false := decide_eq_false c54
           clear c54
           simp only [Option.some.injEq, Prod.mk.injEq] at H
           obtain ⟨rfl, rfl, rfl⟩ := H
           go_wp2
           repeat (go_quiet (fail); try go_wp2)
           go_ret3
           exact ⟨by first | rfl | (simp [errW_none, errW_some] <;> rfl) | (simp only [← hji22]; first | rfl | (simp [errW_none, errW_some] <;> rfl)) | (simp [*, errW_none, errW_some] <;> rfl), bs1_ HB GE458⟩
          rw [if_pos c54] at H
          have c54b0 : decide (1 < (wrap64 (x14_4 - x13_4))) = true := decide_eq_true c54
          clear c54
          replace H := Option.bind_eq_some_iff.mp H
          obtain ⟨⟨t476, t477⟩, A550, H⟩ := H
          replace H : ((cohousingref05_Value.f k4 l1 (wrap64 (Int.tdiv (wrap64 (x13_4 + x14_4)) 2))).bind fun bt478 => ((cohousingref05_Compare.f t476 t477 bt478.1 bt478.2).bind fun t480 => (if t480 < 0 then (cohousingref05_Below.l1 k4 l0 l1 x13_4 (wrap64 (Int.tdiv (wrap64 (x13_4 + x14_4)) 2))) else (cohousingref05_Below.l1 k4 l0 l1 (wrap64 (Int.tdiv (wrap64 (x13_4 + x14_4)) 2)) x14_4)))) = some (r1, r2, r3) := H
          have A55 := mk_ A550
          clear A550
          replace H := Option.bind_eq_some_iff.mp H
          obtain ⟨⟨t478, t479⟩, A560, H⟩ := H
          replace H : ((cohousingref05_Compare.f t476 t477 t478 t479).bind fun t480 => (if t480 < 0 then (cohousingref05_Below.l1 k4 l0 l1 x13_4 (wrap64 (Int.tdiv (wrap64 (x13_4 + x14_4)) 2))) else (cohousingref05_Below.l1 k4 l0 l1 (wrap64 (Int.tdiv (wrap64 (x13_4 + x14_4)) 2)) x14_4))) = some (r1, r2, r3) := H
          have A56 := mk_ A560
          clear A560
          replace H := Option.bind_eq_some_iff.mp H
          obtain ⟨t480, A570, H⟩ := H
          replace H : (if t480 < 0 then (cohousingref05_Below.l1 k4 l0 l1 x13_4 (wrap64 (Int.tdiv (wrap64 (x13_4 + x14_4)) 2))) else (cohousingref05_Below.l1 k4 l0 l1 (wrap64 (Int.tdiv (wrap64 (x13_4 + x14_4)) 2)) x14_4)) = some (r1, r2, r3) := H
          have A57 := mk_ A570
          clear A570
          by_cases c58 : t480 < 0
          case' _ =>
           rw [if_pos c58] at H
           have c58b0 : decide (t480 < 0) = true := decide_eq_true c58
           clear c58
           have H' := mk_ H
           clear H
          rotate_left
          case' _ =>
           rw [if_neg c58] at H
           have c58b0 : decide (t480 < 0) = false := decide_eq_false c58
           clear c58
           have H' := mk_ H
           clear H
          rotate_left
          all_goals go_wp2_with (first | (go_at_call 27; (with_reducible refine (cohousingref05_Value.calls k4 _ _ l0 (wrap64 (Int.tdiv (wrap64 (x13_4 + x14_4)) 2)) t476 t477 _ ?side1 ?side2 A55.out).mono ?_); (case side1 => exact cc_ ((Kd.C_below HR0.out HB.out))); (case side2 => exact HC0.out); rintro e w59 ⟨rfl, hb⟩; replace BK458 := mk_ (blk_below (kk_ BK458) hb); replace HB := mk_ (below_step (bs_ HB GE458.out) hb); (try clear hb)) | (go_at_call 27; (with_reducible refine (cohousingref05_Value.calls k4 _ _ l1 (wrap64 (Int.tdiv (wrap64 (x13_4 + x14_4)) 2)) t478 t479 _ ?side1 ?side2 A56.out).mono ?_); (case side1 => exact cc_ ((Kd.C_below HR1.out HB.out))); (case side2 => exact HC1.out); rintro e w60 ⟨rfl, hb⟩; replace BK458 := mk_ (blk_below (kk_ BK458) hb); replace HB := mk_ (below_step (bs_ HB GE458.out) hb); (try clear hb)) | (go_at_call 29; (with_reducible refine (cohousingref05_Compare.calls t476 t477 t478 t479 t480 _ A57.out).mono ?_); rintro e w61 ⟨rfl, hb⟩; replace BK458 := mk_ (blk_below (kk_ BK458) hb); replace HB := mk_ (below_step (bs_ HB GE458.out) hb); (try clear hb)))
          ·repeat (go_quiet (first | fail); try go_wp2_with (first | fail))
           go_roundg k4
           case measure => have := HJ5.out; have := HK2.out; have := HJ22.out; have := HK4.out; omega
           case rel => exact ⟨(x13_4), (wrap64 (Int.tdiv (wrap64 (x13_4 + x14_4)) 2)), sd_, sd_, H', ⟨by have := HJ5.out; have := HK2.out; have := HJ22.out; have := HK4.out; omega⟩, ⟨kk_ BK458⟩, ⟨bs1_ HB GE458⟩⟩
          ·repeat (go_quiet (first | fail); try go_wp2_with (first | fail))
           go_roundg k4
           case measure => have := HJ5.out; have := HK2.out; have := HJ22.out; have := HK4.out; omega
           case rel => exact ⟨(wrap64 (Int.tdiv (wrap64 (x13_4 + x14_4)) 2)), (x14_4), sd_, sd_, H', ⟨by have := HJ5.out; have := HK2.out; have := HJ22.out; have := HK4.out; omega⟩, ⟨kk_ BK458⟩, ⟨bs1_ HB GE458⟩⟩
end
end Go.Proofs.Ytmhimmodigeeiaa.P
end
section
namespace Go.Proofs.Ytmhimmodigeeiaa.P
open Go.RowKit Go.Proofs.YtmhimmodigeeiaaW.PrintWords Go.Proofs.YtmhimmodigeeiaaW.PrintLast Go.Proofs.YtmhimmodigeeiaaW.PrintMore
set_option linter.unusedVariables false
set_option linter.unusedSimpArgs false
abbrev PC := S51
abbrev RT := S24
def Ev {α : Type} (f : Nat → Option α) (r : α) : Prop := ∃ k0, ∀ k, k0 ≤ k → f k = some r
theorem Ev.step {α : Type} {f : Nat → Option α} {r : α} (h : Ev (fun k => f (k + 1)) r) : Ev f r := by
 obtain ⟨k0, h⟩ := h
 refine ⟨k0 + 1, fun k hk => ?_⟩
 obtain ⟨k, rfl⟩ : ∃ m, k = m + 1 := ⟨k - 1, by omega⟩
 exact h k (by omega)
theorem Ev.pure {α : Type} (r : α) : Ev (fun _ => some r) r := ⟨0, fun _ _ => rfl⟩
theorem Ev.bnd {α β : Type} {f : Nat → Option β} {g : β → Nat → Option α} {b : β} {r : α} (hf : Ev f b) (hg : Ev (g b) r) : Ev (fun k => (f k).bind fun t => g t k) r := by
 obtain ⟨k0, h⟩ := hf
 obtain ⟨k1, h1⟩ := hg
 refine ⟨max k0 k1, fun k hk => ?_⟩
 show (f k).bind _ = _
 rw [h k (by omega)]
 exact h1 k (by omega)
theorem Ev.congr {α : Type} {f g : Nat → Option α} {r : α} (h : ∀ k, f k = g k) (hg : Ev g r) : Ev f r := by
 obtain ⟨k0, h0⟩ := hg
 exact ⟨k0, fun k hk => (h k).trans (h0 k hk)⟩
theorem Ev.of_mono {α : Type} {f : Nat → Option α} {r : α} (k0 : Nat) (h0 : f k0 = some r) (h : ∀ k, LeO (f k) (f (k + 1))) : Ev f r := by
 refine ⟨k0, fun k hk => ?_⟩
 obtain ⟨d, rfl⟩ : ∃ d, k = k0 + d := ⟨k - k0, by omega⟩
 induction d with
 | zero => exact h0
 | succ d ih => exact h _ _ (ih (by omega))
theorem wrap_id {n : Int} (h : -9000000000000000000 ≤ n) (h' : n ≤ 9000000000000000000) : wrap64 n = n := by unfold wrap64; omega
theorem red_unique {a b a' b' : Int} (hb : 0 < b) (hb' : 0 < b') (h1 : Int.gcd a b = 1) (h2 : Int.gcd a' b' = 1) (h : a * b' = a' * b) : a = a' ∧ b = b' := by
 have d1 : b ∣ b' := by
  have : b ∣ a * b' := ⟨a', by rw [h, Int.mul_comm]⟩
  have := Int.dvd_gcd_mul_iff_dvd_mul.2 this
  rw [Int.gcd_comm, h1] at this
  simpa using this
 have d2 : b' ∣ b := by
  have : b' ∣ a' * b := ⟨a, by rw [← h, Int.mul_comm]⟩
  have := Int.dvd_gcd_mul_iff_dvd_mul.2 this
  rw [Int.gcd_comm, h2] at this
  simpa using this
 have hbb : b = b' := Int.dvd_antisymm (by omega) (by omega) d1 d2
 subst hbb
 exact ⟨Int.eq_of_mul_eq_mul_right (by omega) h, rfl⟩
def red (n d : Int) : Int × Int := (n / (Int.gcd n d : Int), d / (Int.gcd n d : Int))
theorem red_pos {n d : Int} (hd : 0 < d) : (0 : Int) < (Int.gcd n d : Int) := by
 have : Int.gcd n d ≠ 0 := fun h => by
  have := Int.gcd_eq_zero_iff.1 h
  omega
 omega
theorem red_n {n d : Int} : (red n d).1 * (Int.gcd n d : Int) = n := Int.ediv_mul_cancel (Int.gcd_dvd_left ..)
theorem red_d {n d : Int} : (red n d).2 * (Int.gcd n d : Int) = d := Int.ediv_mul_cancel (Int.gcd_dvd_right ..)
theorem red_den {n d : Int} (hd : 0 < d) : 0 < (red n d).2 := by
 have h1 := red_pos (n := n) hd
 have h2 := red_d (n := n) (d := d)
 rcases Int.lt_or_le 0 (red n d).2 with h | h
 ·exact h
 ·have := Int.mul_nonneg_of_nonpos_of_nonpos h (show -(Int.gcd n d : Int) ≤ 0 by omega)
  rw [Int.mul_neg] at this
  omega
theorem red_gcd {n d : Int} (hd : 0 < d) : Int.gcd (red n d).1 (red n d).2 = 1 := by
 have := red_pos (n := n) hd
 exact Int.gcd_ediv_gcd_ediv_gcd (by omega)
theorem red_cross {n d : Int} : (red n d).1 * d = n * (red n d).2 := by
 have h1 := red_n (n := n) (d := d)
 have h2 := red_d (n := n) (d := d)
 generalize (red n d).1 = a at *
 generalize (red n d).2 = b at *
 generalize (Int.gcd n d : Int) = g at *
 subst h1
 subst h2
 rw [Int.mul_assoc, Int.mul_comm g b]
theorem red_eq {n d n' d' : Int} (hd : 0 < d) (hd' : 0 < d') (h : n * d' = n' * d) : red n d = red n' d' := by
 have h1 := red_cross (n := n) (d := d)
 have h2 := red_cross (n := n') (d := d')
 have p1 := red_den (n := n) hd
 have p2 := red_den (n := n') hd'
 have := red_unique p1 p2 (red_gcd hd) (red_gcd hd') (by
  apply Int.eq_of_mul_eq_mul_right (a := d * d') (by have := Int.mul_pos hd hd'; omega)
  calc (red n d).1 * (red n' d').2 * (d * d') = ((red n d).1 * d) * ((red n' d').2 * d') := by simp [Int.mul_comm, Int.mul_left_comm, Int.mul_assoc]
   _ = (n * (red n d).2) * ((red n' d').2 * d') := by rw [h1]
   _ = (n * d') * ((red n d).2 * (red n' d').2) := by simp [Int.mul_comm, Int.mul_left_comm, Int.mul_assoc]
   _ = (n' * d) * ((red n d).2 * (red n' d').2) := by rw [h]
   _ = (n' * (red n' d').2) * ((red n d).2 * d) := by simp [Int.mul_comm, Int.mul_left_comm, Int.mul_assoc]
   _ = ((red n' d').1 * d') * ((red n d).2 * d) := by rw [h2]
   _ = (red n' d').1 * (red n d).2 * (d * d') := by simp [Int.mul_comm, Int.mul_left_comm, Int.mul_assoc])
 exact Prod.ext this.1 this.2
theorem red_iff {n d n' d' : Int} (hd : 0 < d) (hd' : 0 < d') : red n d = red n' d' ↔ n * d' = n' * d := by
 refine ⟨fun h => ?_, red_eq hd hd'⟩
 have h1 := red_cross (n := n) (d := d)
 have h2 := red_cross (n := n') (d := d')
 rw [← h] at h2
 have p1 := red_den (n := n) hd
 generalize (red n d).1 = a at *
 generalize (red n d).2 = b at *
 apply Int.eq_of_mul_eq_mul_right (a := b) (by omega)
 calc n * d' * b = (n * b) * d' := by simp [Int.mul_comm, Int.mul_left_comm, Int.mul_assoc]
  _ = (a * d) * d' := by rw [h1]
  _ = (a * d') * d := by simp [Int.mul_comm, Int.mul_left_comm, Int.mul_assoc]
  _ = (n' * b) * d := by rw [h2]
  _ = n' * d * b := by simp [Int.mul_comm, Int.mul_left_comm, Int.mul_assoc]
theorem red_cmp {n d n' d' : Int} (hd : 0 < d) (hd' : 0 < d') : ((red n d).1 * (red n' d').2 < (red n' d').1 * (red n d).2) ↔ n * d' < n' * d := by
 have h1 := red_n (n := n) (d := d)
 have h2 := red_d (n := n) (d := d)
 have h3 := red_n (n := n') (d := d')
 have h4 := red_d (n := n') (d := d')
 have g1 := red_pos (n := n) hd
 have g2 := red_pos (n := n') hd'
 generalize (red n d).1 = a at *
 generalize (red n d).2 = b at *
 generalize (Int.gcd n d : Int) = g at *
 generalize (red n' d').1 = a' at *
 generalize (red n' d').2 = b' at *
 generalize (Int.gcd n' d' : Int) = g' at *
 have gg := Int.mul_pos g1 g2
 have e1 : n * d' = a * b' * (g * g') := by rw [← h1, ← h4]; simp [Int.mul_comm, Int.mul_left_comm]
 have e2 : n' * d = a' * b * (g * g') := by rw [← h3, ← h2]; simp [Int.mul_comm, Int.mul_left_comm]
 rw [e1, e2]
 exact ⟨fun h => Int.mul_lt_mul_of_pos_right h gg, fun h => Int.lt_of_mul_lt_mul_right h (by omega)⟩
theorem red_id {n d : Int} (hd : 0 < d) (h : Int.gcd n d = 1) : red n d = (n, d) := by
 unfold red
 rw [h]
 simp
theorem red_sum {n d n' d' : Int} (hd : 0 < d) (hd' : 0 < d') : red ((red n d).1 * (red n' d').2 + (red n' d').1 * (red n d).2) ((red n d).2 * (red n' d').2) = red (n * d' + n' * d) (d * d') := by
 have p1 := red_den (n := n) hd
 have p2 := red_den (n := n') hd'
 have h1 := red_cross (n := n) (d := d)
 have h2 := red_cross (n := n') (d := d')
 refine red_eq (Int.mul_pos p1 p2) (Int.mul_pos hd hd') ?_
 generalize (red n d).1 = a at *
 generalize (red n d).2 = b at *
 generalize (red n' d').1 = a' at *
 generalize (red n' d').2 = b' at *
 rw [Int.add_mul, Int.add_mul]
 have e1 : a * b' * (d * d') = (a * d) * (b' * d') := by simp [Int.mul_comm, Int.mul_left_comm]
 have e2 : a' * b * (d * d') = (a' * d') * (b * d) := by simp [Int.mul_comm, Int.mul_left_comm]
 rw [e1, e2, h1, h2]
 have e3 : n * b * (b' * d') = n * d' * (b * b') := by simp [Int.mul_comm, Int.mul_left_comm]
 have e4 : n' * b' * (b * d) = n' * d * (b * b') := by simp [Int.mul_comm, Int.mul_left_comm]
 rw [e3, e4]
theorem red_small {n d : Int} (hd : 0 < d) : (red n d).1.natAbs ≤ n.natAbs ∧ (red n d).2 ≤ d := by
 have g1 := red_pos (n := n) hd
 have h1 := red_n (n := n) (d := d)
 have h2 := red_d (n := n) (d := d)
 have p1 := red_den (n := n) hd
 generalize (red n d).1 = a at *
 generalize (red n d).2 = b at *
 constructor
 ·rw [← h1, Int.natAbs_mul]
  exact Nat.le_mul_of_pos_right _ (by omega)
 ·have := Int.mul_le_mul_of_nonneg_left (show 1 ≤ (Int.gcd n d : Int) by omega) (show 0 ≤ b by omega)
  omega
theorem euc (a b : Int) : Int.gcd b (Int.tmod a b) = Int.gcd a b := by
 unfold Int.gcd
 rw [Int.natAbs_tmod, Nat.gcd_comm, ← Nat.gcd_rec, Nat.gcd_comm]
theorem gcd_z {a : Int} (h : 0 ≤ a) : (Int.gcd a 0 : Int) = a := by
 rw [Int.gcd_zero_right]
 omega
theorem tmod_in {a b : Int} (ha : 0 ≤ a) (hb : 0 < b) : 0 ≤ Int.tmod a b ∧ Int.tmod a b < b := ⟨Int.tmod_nonneg b ha, Int.tmod_lt_of_pos a hb⟩
theorem common_l0 : ∀ (k : Nat) (a b : Int), 0 ≤ a → 0 ≤ b → b.toNat < k → rational_common.l0 k a b = some (Int.gcd a b : Int)
 | 0, _, _, _, _, h => absurd h (Nat.not_lt_zero _)
 | k + 1, a, b, ha, hb, h => by
  unfold rational_common.l0
  by_cases hz : b = 0
  ·subst hz
   rw [if_pos rfl, gcd_z ha]
  ·have := tmod_in ha (show 0 < b by omega)
   rw [if_neg hz, common_l0 k b _ hb this.1 (by omega), euc]
theorem rcommon_l0 : ∀ (k : Nat) (a b : Int), 0 ≤ a → 0 ≤ b → b.toNat < k → cohousingref01_common.l0 k a b = some (Int.gcd a b : Int)
 | 0, _, _, _, _, h => absurd h (Nat.not_lt_zero _)
 | k + 1, a, b, ha, hb, h => by
  unfold cohousingref01_common.l0
  by_cases hz : b = 0
  ·subst hz
   rw [if_pos rfl, gcd_z ha]
  ·have := tmod_in ha (show 0 < b by omega)
   rw [if_neg hz, rcommon_l0 k b _ hb this.1 (by omega), euc]
theorem gcd_l0 : ∀ (k : Nat) (a b : Int), 0 ≤ a → 0 ≤ b → b.toNat < k → cohousingref05_gcd.l0 k a b = some (Int.gcd a b : Int)
 | 0, _, _, _, _, h => absurd h (Nat.not_lt_zero _)
 | k + 1, a, b, ha, hb, h => by
  unfold cohousingref05_gcd.l0
  by_cases hz : b > 0
  ·have := tmod_in ha (show 0 < b by omega)
   rw [if_pos hz, if_neg (by omega), gcd_l0 k b _ hb this.1 (by omega), euc]
  ·have : b = 0 := by omega
   subst this
   rw [if_neg hz, gcd_z ha]
theorem gcd_tot : ∀ (k : Nat) (a b : Int), (0 < b ∨ 0 < a) → b.toNat < k → ∃ g, cohousingref05_gcd.l0 k a b = some g ∧ 0 < g
 | 0, _, _, _, h => absurd h (Nat.not_lt_zero _)
 | k + 1, a, b, ha, h => by
  unfold cohousingref05_gcd.l0
  by_cases hz : b > 0
  ·have h1 := Int.tmod_lt_of_pos a hz
   obtain ⟨g, hg⟩ := gcd_tot k b (Int.tmod a b) (.inr hz) (by omega)
   exact ⟨g, by rw [if_pos hz, if_neg (by omega)]; exact hg.1, hg.2⟩
  ·exact ⟨a, by rw [if_neg hz], by omega⟩
theorem lowest_l0 (x0 x1 : Int) : ∀ (k : Nat) (a b : Int), 0 ≤ a → 0 ≤ b → (a ≠ 0 ∨ 0 < b) → b.toNat < k → piecewise_lowest.l0 k x0 x1 a b = some (wrap64 (Int.tdiv x0 (Int.gcd a b : Int)), wrap64 (Int.tdiv x1 (Int.gcd a b : Int)))
 | 0, _, _, _, _, _, h => absurd h (Nat.not_lt_zero _)
 | k + 1, a, b, ha, hb, hz, h => by
  unfold piecewise_lowest.l0
  by_cases h6 : b > 0
  ·have := tmod_in ha h6
   rw [if_pos h6, if_neg (by omega), lowest_l0 x0 x1 k b _ hb this.1 (.inl (by omega)) (by omega), euc]
  ·have e : b = 0 := by omega
   subst e
   rw [if_neg h6, if_neg (by omega), gcd_z ha]
theorem red_bound {n d : Int} (hd : 0 < d) {B : Int} (h1 : -B ≤ n) (h2 : n ≤ B) : -B ≤ (red n d).1 ∧ (red n d).1 ≤ B := by
 have := (red_small (n := n) hd).1
 omega
theorem tdiv_red {n d : Int} (hd : 0 < d) : Int.tdiv n (Int.gcd n d : Int) = (red n d).1 ∧ Int.tdiv d (Int.gcd n d : Int) = (red n d).2 :=
 ⟨Int.tdiv_eq_ediv_of_dvd (Int.gcd_dvd_left ..), Int.tdiv_eq_ediv_of_dvd (Int.gcd_dvd_right ..)⟩
theorem mx_abs {n : Int} (h : -9000000000000000000 ≤ n) (h' : n ≤ 9000000000000000000) : mx n (wrap64 (-n)) = (n.natAbs : Int) := by
 rw [wrap_id (by omega) (by omega)]
 unfold mx
 split <;> omega
theorem gcd_abs (n d : Int) : Int.gcd (n.natAbs : Int) d = Int.gcd n d := by
 unfold Int.gcd
 rw [Int.natAbs_natCast]
theorem lowest_eq {k : Nat} {n d : Int} (hd : 0 < d) (hd2 : d ≤ 9000000000000000000) (h1 : -9000000000000000000 ≤ n) (h2 : n ≤ 9000000000000000000) (hk : d.toNat < k) : piecewise_lowest.f k n d = some (red n d) := by
 unfold piecewise_lowest.f
 rw [mx_abs h1 h2, lowest_l0 n d k _ d (by omega) (by omega) (.inr hd) hk, gcd_abs, (tdiv_red hd).1, (tdiv_red hd).2]
 have h3 := red_bound hd h1 h2
 have h4 := (red_small (n := n) hd).2
 have h5 := red_den (n := n) hd
 rw [wrap_id h3.1 h3.2, wrap_id (by omega) (by omega)]
theorem reduce_eq {k : Nat} {n d : Int} (hd : 0 < d) (hd2 : d ≤ 9000000000000000000) (h1 : -9000000000000000000 ≤ n) (h2 : n ≤ 9000000000000000000) (hk : d.toNat < k) : cohousingref05_Reduce.f k n d = some (red n d) := by
 have h3 := red_bound hd h1 h2
 have h4 := (red_small (n := n) hd).2
 have h5 := red_den (n := n) hd
 have hg := red_pos (n := n) hd
 unfold cohousingref05_Reduce.f cohousingref05_gcd.f
 by_cases hn : n < 0
 ·rw [if_pos hn, wrap_id (by omega) (by omega), gcd_l0 k (-n) d (by omega) (by omega) hk, show Int.gcd (-n) d = Int.gcd n d from Int.neg_gcd]
  simp only [Option.bind_some]
  rw [if_neg (by omega), (tdiv_red hd).1, (tdiv_red hd).2, wrap_id h3.1 h3.2, wrap_id (by omega) (by omega)]
 ·rw [if_neg hn, gcd_l0 k n d (by omega) (by omega) hk]
  simp only [Option.bind_some]
  rw [if_neg (by omega), (tdiv_red hd).1, (tdiv_red hd).2, wrap_id h3.1 h3.2, wrap_id (by omega) (by omega)]
theorem reduce_ev {n d : Int} (hd : 0 < d) (hd2 : d ≤ 9000000000000000000) (h1 : -9000000000000000000 ≤ n) (h2 : n ≤ 9000000000000000000) : Ev (fun k => cohousingref05_Reduce.f k n d) (red n d) := ⟨d.toNat + 1, fun _ hk => reduce_eq hd hd2 h1 h2 (by omega)⟩
theorem reduce_tot {n d : Int} (hd : 0 < d) : ∃ r, Ev (fun k => cohousingref05_Reduce.f k n d) r := by
 by_cases hn : n < 0
 ·obtain ⟨g, h1, h2⟩ := gcd_tot (d.toNat + 1) (wrap64 (-n)) d (.inl hd) (by omega)
  refine ⟨(wrap64 (Int.tdiv n g), wrap64 (Int.tdiv d g)), d.toNat + 1, fun k hk => ?_⟩
  obtain ⟨g', h1', h2'⟩ := gcd_tot k (wrap64 (-n)) d (.inl hd) (by omega)
  have e : g' = g := by
   have := Ev.of_mono (f := fun k => cohousingref05_gcd.f k (wrap64 (-n)) d) (d.toNat + 1) h1 (fun k => cohousingref05_gcd.mono _ _ k)
   obtain ⟨k0, h0⟩ := this
   have a1 := h0 (max k0 k) (by omega)
   have := Ev.of_mono (f := fun k => cohousingref05_gcd.f k (wrap64 (-n)) d) k h1' (fun k => cohousingref05_gcd.mono _ _ k)
   obtain ⟨k1, h0'⟩ := this
   have a2 := h0' (max k1 (max k0 k)) (by omega)
   have a3 := h0 (max k1 (max k0 k)) (by omega)
   rw [a3] at a2
   exact (Option.some.inj a2).symm
  subst e
  show cohousingref05_Reduce.f k n d = _
  unfold cohousingref05_Reduce.f cohousingref05_gcd.f
  rw [if_pos hn, h1']
  simp only [Option.bind_some]
  rw [if_neg (by omega)]
 ·refine ⟨(wrap64 (Int.tdiv n (Int.gcd n d : Int)), wrap64 (Int.tdiv d (Int.gcd n d : Int))), d.toNat + 1, fun k hk => ?_⟩
  have hg := red_pos (n := n) hd
  show cohousingref05_Reduce.f k n d = _
  unfold cohousingref05_Reduce.f cohousingref05_gcd.f
  rw [if_neg hn, gcd_l0 k n d (by omega) (by omega) (by omega)]
  simp only [Option.bind_some]
  rw [if_neg (by omega)]
def RV (a b : Int) : Prop := 1 ≤ b ∧ b ≤ 1000000000 ∧ -1000000000 ≤ a ∧ a ≤ 1000000000 ∧ Int.gcd a b = 1
instance (a b : Int) : Decidable (RV a b) := by unfold RV; infer_instance
theorem size_eq {a : Int} (h1 : -1000000000 ≤ a) (h2 : a ≤ 1000000000) : rational_size.f a = some (a.natAbs : Int) := by
 unfold rational_size.f
 have e : ∀ x : Int, IntKind.u64.wrap x = x % 18446744073709551616 := fun x => by simp [IntKind.wrap, IntKind.bits, IntKind.signed]
 split
 ·rw [e, e]
  congr 1
  omega
 ·rw [e]
  congr 1
  omega
theorem rvalid_eq (a b : Int) : rational_Valid.f a b = some (decide (RV a b)) := by
 unfold rational_Valid.f
 by_cases h1 : b ≥ 1
 case neg => rw [if_neg h1, decide_eq_false (fun h => h1 h.1)]
 by_cases h2 : b ≤ 1000000000
 case neg => rw [if_pos h1, if_neg h2, decide_eq_false (fun h => h2 h.2.1)]
 by_cases h3 : a ≥ -1000000000
 case neg => rw [if_pos h1, if_pos h2, if_neg h3, decide_eq_false (fun h => h3 h.2.2.1)]
 by_cases h4 : a ≤ 1000000000
 case neg => rw [if_pos h1, if_pos h2, if_pos h3, if_neg h4, decide_eq_false (fun h => h4 h.2.2.2.1)]
 rw [if_pos h1, if_pos h2, if_pos h3, if_pos h4, size_eq h3 h4, size_eq (by omega) h2]
 simp only [Option.bind_some, rational_common.f]
 rw [common_l0 _ _ _ (by omega) (by omega) (by omega)]
 simp only [Option.bind_some]
 congr 1
 rw [gcd_abs, show Int.gcd a (b.natAbs : Int) = Int.gcd a b by rw [Int.natAbs_of_nonneg (by omega)]]
 rw [Bool.eq_iff_iff]
 simp only [beq_iff_eq, decide_eq_true_eq]
 constructor
 ·intro h
  exact ⟨h1, h2, h3, h4, by omega⟩
 ·intro h
  have := h.2.2.2.2
  omega
end Go.Proofs.Ytmhimmodigeeiaa.P
end
