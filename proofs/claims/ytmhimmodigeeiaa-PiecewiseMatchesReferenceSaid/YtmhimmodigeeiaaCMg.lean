/- Part 7 of the base that the seat's proofs share: words, walks and plain laws. -/
import Derived.Test.YtmhimmodigeeiaaCMf
set_option linter.unusedVariables false
set_option linter.unusedSimpArgs false
section
namespace Go.Proofs.Ytmhimmodigeeiaa.P
open Go.RowKit Go.Proofs.YtmhimmodigeeiaaW.PrintWords Go.Proofs.YtmhimmodigeeiaaW.PrintLast Go.Proofs.YtmhimmodigeeiaaW.PrintMore
attribute [local go_sem] max2_int min2_int max_two min_two max_three min_three max_four min_four
set_option linter.unusedVariables false
set_option linter.unusedSimpArgs false
set_option maxHeartbeats 8000000
set_option maxRecDepth 100000
section
def cohousingref05_Piece.l0 : Nat → List (S51) → Int → Int → Int → Int → Int → Int → Int → Option (Int × Int × Int × Int × Int)
 | 0, _, _, _, _, _, _, _, _ => none
 | k + 1, x0, x1, x6, x282000, x282001, x282002, x282003, x282004 => if x6 < (x0.length : Int) then (if 0 ≤ x6 then (if ((rd_T51 x0 x6).f0) ≤ x1 then (cohousingref05_Piece.l0 k x0 x1 (wrap64 (x6 + 1)) ((rd_T51 x0 x6).f0) ((rd_T51 x0 x6).f1.f0) ((rd_T51 x0 x6).f1.f1) ((rd_T51 x0 x6).f2.f0) ((rd_T51 x0 x6).f2.f1)) else (cohousingref05_Piece.l0 k x0 x1 (wrap64 (x6 + 1)) x282000 x282001 x282002 x282003 x282004)) else (none)) else (some (x282000, x282001, x282002, x282003, x282004))
def cohousingref05_Piece.f (k : Nat) (l0 : List (S51)) (a1 : Int) : Option (Int × Int × Int × Int × Int) := if 0 < (l0.length : Int) then (cohousingref05_Piece.l0 k l0 a1 0 ((rd_T51 l0 0).f0) ((rd_T51 l0 0).f1.f0) ((rd_T51 l0 0).f1.f1) ((rd_T51 l0 0).f2.f0) ((rd_T51 l0 0).f2.f1)) else (none)
theorem cohousingref05_Piece.calls (k : Nat) (A0 : Option Addr) (c0 : Nat) (l0 : List (S51)) (a1 : Int) (r1 : Int) (r2 : Int) (r3 : Int) (r4 : Int) (r5 : Int) (w : World) (hr0 : Kd.C k51 w A0 l0.length l0) (hc0 : l0.length ≤ c0) (h : cohousingref05_Piece.f k l0 a1 = some (r1, r2, r3, r4, r5)) :
  Calls Try.prog 43 #[.slice A0 l0.length c0, .int .i64 a1] w fun e w' => e = .returned (.agg #[.int .i64 r1, .int .i64 r2, .int .i64 r3, .int .i64 r4, .int .i64 r5]) ∧ Below w.heap.size w w' := by
 have hu51 := Try.underlying51
 have HR0 := mk_ hr0
 have HC0 := mk_ hc0
 clear hr0 hc0
 have HB := mk_ (Below.refl w.heap.size w)
 have H : (if 0 < (l0.length : Int) then (cohousingref05_Piece.l0 k l0 a1 0 ((rd_T51 l0 0).f0) ((rd_T51 l0 0).f1.f0) ((rd_T51 l0 0).f1.f1) ((rd_T51 l0 0).f2.f0) ((rd_T51 l0 0).f2.f1)) else (none)) = some (r1, r2, r3, r4, r5) := h
 clear h
 by_cases c3 : 0 < (l0.length : Int)
 rotate_left
 ·rw [if_neg c3] at H
  exact absurd H (by simp)
 rw [if_pos c3] at H
 have c3b0 : decide (0 < (l0.length : Int)) = true := decide_eq_true c3
 have c3b1 : decide (0 < l0.length) = true := decide_eq_true (by omega)
 clear c3
 have H' := mk_ H
 clear H
 go_enter Try.func43, Try.ntmps43
 go_wp2_with (first | ((with_reducible refine gate_dst (N := 4) rfl ?_); refine box_event ?hg (N := 4) ?hd (cs := #[.int .i64 0, .int .i64 0, .int .i64 0, .int .i64 0, .int .i64 0]) (t := 51) ?hr ?_; (case hd => rfl); (case hg => rfl); (case hr => first | (go_simp; done) | (go_simp; rfl)); intro gb279 hg w4 hbox hb; have BK279 := mk_ (hbox); have GW279 := mk_ (bz_ hg (bb_ HB)); have GE279 := mk_ (bz_ hg (bb_ HB)); replace HB := mk_ (below_step (bb_ HB) hb); clear hb hbox hg; have p280 : 0 ≤ (0 : Int) := (by omega); have q280 : 0 < (l0.length : Int) := od_; obtain ⟨ad280, e280, hx280_0, hx280_1, hx280_2, hx280_3, hx280_4⟩ := at_T51 HR0.out 0 p280 q280; cases e280; have qi280 : (0 < l0.length) = True := eq_true (by omega); (try rw [show ((0 : Int)).toNat = 0 from rfl] at hx280_0); (try rw [show 0 * 5 = 0 from rfl] at hx280_0); (try rw [Addr.add_zero'] at hx280_0); (try rw [show ((0 : Int)).toNat = 0 from rfl] at hx280_1); (try rw [show 0 * 5 = 0 from rfl] at hx280_1); (try rw [Addr.add_zero'] at hx280_1); (try rw [show ((0 : Int)).toNat = 0 from rfl] at hx280_2); (try rw [show 0 * 5 = 0 from rfl] at hx280_2); (try rw [Addr.add_zero'] at hx280_2); (try rw [show ((0 : Int)).toNat = 0 from rfl] at hx280_3); (try rw [show 0 * 5 = 0 from rfl] at hx280_3); (try rw [Addr.add_zero'] at hx280_3); (try rw [show ((0 : Int)).toNat = 0 from rfl] at hx280_4); (try rw [show 0 * 5 = 0 from rfl] at hx280_4); (try rw [Addr.add_zero'] at hx280_4); replace hx280_0 := cb_ HB hx280_0; replace hx280_1 := cb_ HB hx280_1; replace hx280_2 := cb_ HB hx280_2; replace hx280_3 := cb_ HB hx280_3; replace hx280_4 := cb_ HB hx280_4; replace p280 := eq_true p280; replace q280 := eq_true q280) | ((with_reducible refine gate_dst (N := 5) rfl ?_); refine box_event ?hg (N := 5) ?hd (cs := #[.int .i64 0, .int .i64 0, .int .i64 0, .int .i64 0, .int .i64 0]) (t := 51) ?hr ?_; (case hd => rfl); (case hg => rfl); (case hr => first | (go_simp; done) | (go_simp; rfl)); intro gb281 hg w5 hbox hb; have BK281 := mk_ (hbox); have GW281 := mk_ (bz_ hg (bs_ HB GE279.out)); have GE281 := mk_ (bz_ hg (bs_ HB GE279.out)); replace HB := mk_ (below_step (bs_ HB GE279.out) hb); have NB279_281 := mk_ (bl_ hg (kk_ BK279)); have NB281_279 := mk_ (bg_ hg (kk_ BK279)); replace BK279 := mk_ (blk_below (kk_ BK279) hb); clear hb hbox hg; have hnb6 := NB281_279.out; have hnc6 := NB279_281.out; have hcz7_0 := bc0_ BK281.out; have hcz7_1 := bc1_ BK281.out; have hcz7_2 := bc2_ BK281.out; have hcz7_3 : w5.cell? ⟨gb281, 3, none⟩ = some (.int .i64 0) := (blk_cell BK281.out 3).trans rfl; have hcz7_4 : w5.cell? ⟨gb281, 4, none⟩ = some (.int .i64 0) := (blk_cell BK281.out 4).trans rfl; have hfz7_0 := blk_frozen BK281.out 0; have hfz7_1 := blk_frozen BK281.out 1; have hfz7_2 := blk_frozen BK281.out 2; have hfz7_3 := blk_frozen BK281.out 3; have hfz7_4 := blk_frozen BK281.out 4))
 go_loopg [6] k (fun kq v6 w' => ∃ (x6_1 : Int) (x282000_1 : Int) (x282001_1 : Int) (x282002_1 : Int) (x282003_1 : Int) (x282004_1 : Int), v6 = .int .i64 x6_1 ∧ Aside0 (cohousingref05_Piece.l0 kq l0 a1 x6_1 x282000_1 x282001_1 x282002_1 x282003_1 x282004_1 = some (r1, r2, r3, r4, r5)) ∧ Aside0 (kq ≤ k) ∧ Aside0 (w'.heap[gb279]? = some (.cells #[.int .i64 0, .int .i64 0, .int .i64 0, .int .i64 0, .int .i64 0] 51 (0, 0))) ∧ Aside0 (w'.heap[gb281]? = some (.cells #[.int .i64 x282000_1, .int .i64 x282001_1, .int .i64 x282002_1, .int .i64 x282003_1, .int .i64 x282004_1] 51 (0, 0))) ∧ Aside0 (Below w.heap.size w w'))
 case atStart => exact ⟨(0), ((rd_T51 l0 0).f0), ((rd_T51 l0 0).f1.f0), ((rd_T51 l0 0).f1.f1), ((rd_T51 l0 0).f2.f0), ((rd_T51 l0 0).f2.f1), sd_, H', ⟨Nat.le_refl _⟩, ⟨by (with_reducible repeat (first | refine blk_drewN ?_ _ | refine blk_drew ?_ | refine blk_alloc ?_ _)); refine blk_far ?_ NB279_281.out _; (with_reducible repeat (first | refine blk_drewN ?_ _ | refine blk_drew ?_ | refine blk_alloc ?_ _)); refine blk_far ?_ NB279_281.out _; (with_reducible repeat (first | refine blk_drewN ?_ _ | refine blk_drew ?_ | refine blk_alloc ?_ _)); refine blk_far ?_ NB279_281.out _; (with_reducible repeat (first | refine blk_drewN ?_ _ | refine blk_drew ?_ | refine blk_alloc ?_ _)); refine blk_far ?_ NB279_281.out _; (with_reducible repeat (first | refine blk_drewN ?_ _ | refine blk_drew ?_ | refine blk_alloc ?_ _)); refine blk_far ?_ NB279_281.out _; (with_reducible repeat (first | refine blk_drewN ?_ _ | refine blk_drew ?_ | refine blk_alloc ?_ _)); exact BK279.out⟩, ⟨by (with_reducible repeat (first | refine blk_drewN ?_ _ | refine blk_drew ?_ | refine blk_alloc ?_ _)); refine blk_put (cs := #[.int .i64 ((rd_T51 l0 0).f0), .int .i64 ((rd_T51 l0 0).f1.f0), .int .i64 ((rd_T51 l0 0).f1.f1), .int .i64 ((rd_T51 l0 0).f2.f0), .int .i64 0]) ?_ 4 _ rfl; (with_reducible repeat (first | refine blk_drewN ?_ _ | refine blk_drew ?_ | refine blk_alloc ?_ _)); refine blk_put (cs := #[.int .i64 ((rd_T51 l0 0).f0), .int .i64 ((rd_T51 l0 0).f1.f0), .int .i64 ((rd_T51 l0 0).f1.f1), .int .i64 0, .int .i64 0]) ?_ 3 _ rfl; (with_reducible repeat (first | refine blk_drewN ?_ _ | refine blk_drew ?_ | refine blk_alloc ?_ _)); refine blk_put (cs := #[.int .i64 ((rd_T51 l0 0).f0), .int .i64 ((rd_T51 l0 0).f1.f0), .int .i64 0, .int .i64 0, .int .i64 0]) ?_ 2 _ rfl; (with_reducible repeat (first | refine blk_drewN ?_ _ | refine blk_drew ?_ | refine blk_alloc ?_ _)); refine blk_put (cs := #[.int .i64 ((rd_T51 l0 0).f0), .int .i64 0, .int .i64 0, .int .i64 0, .int .i64 0]) ?_ 1 _ rfl; (with_reducible repeat (first | refine blk_drewN ?_ _ | refine blk_drew ?_ | refine blk_alloc ?_ _)); refine blk_put (cs := #[.int .i64 0, .int .i64 0, .int .i64 0, .int .i64 0, .int .i64 0]) ?_ 0 _ rfl; (with_reducible repeat (first | refine blk_drewN ?_ _ | refine blk_drew ?_ | refine blk_alloc ?_ _)); exact BK281.out⟩, ⟨bs2_ HB GE279 GE281⟩⟩
 case round =>
  clear H'
  obtain ⟨x6_1, x282000_1, x282001_1, x282002_1, x282003_1, x282004_1, rfl, HA, HK1, BK279, BK281, HB⟩ := hrel
  cases gk with
  | zero => exact absurd HA.out (by simp [cohousingref05_Piece.l0])
  | succ k1 =>
   have H := HA.out
   clear HA
   simp only [cohousingref05_Piece.l0] at H
   by_cases c8 : x6_1 < (l0.length : Int)
   rotate_left
   ·rw [if_neg c8] at H
    have c8b0 : decide (x6_1 < (l0.length : Int)) = false := decide_eq_false c8
    clear c8
    simp only [Option.some.injEq, Prod.mk.injEq] at H
    obtain ⟨rfl, rfl, rfl, rfl, rfl⟩ := H
    have hnb13 := NB281_279.out
    have hnc13 := NB279_281.out
    have hcz14_0 := bc0_ BK281.out
    have hcz14_1 := bc1_ BK281.out
    have hcz14_2 := bc2_ BK281.out
    have hcz14_3 : wr.cell? ⟨gb281, 3, none⟩ = some (.int .i64 x282003_1) := (blk_cell BK281.out 3).trans rfl
    have hcz14_4 : wr.cell? ⟨gb281, 4, none⟩ = some (.int .i64 x282004_1) := (blk_cell BK281.out 4).trans rfl
    have hfz14_0 := blk_frozen BK281.out 0
    have hfz14_1 := blk_frozen BK281.out 1
    have hfz14_2 := blk_frozen BK281.out 2
    have hfz14_3 := blk_frozen BK281.out 3
    have hfz14_4 := blk_frozen BK281.out 4
    have hcz15_0 := bc0_ BK279.out
    have hcz15_1 := bc1_ BK279.out
    have hcz15_2 := bc2_ BK279.out
    have hcz15_3 : wr.cell? ⟨gb279, 3, none⟩ = some (.int .i64 0) := (blk_cell BK279.out 3).trans rfl
    have hcz15_4 : wr.cell? ⟨gb279, 4, none⟩ = some (.int .i64 0) := (blk_cell BK279.out 4).trans rfl
    have hfz15_0 := blk_frozen BK279.out 0
    have hfz15_1 := blk_frozen BK279.out 1
    have hfz15_2 := blk_frozen BK279.out 2
    have hfz15_3 := blk_frozen BK279.out 3
    have hfz15_4 := blk_frozen BK279.out 4
    go_wp2
    refine bodyPost_ret (results_cell_row rfl _ _ gb279 51 #[.int .i64 x282000_1, .int .i64 x282001_1, .int .i64 x282002_1, .int .i64 x282003_1, .int .i64 x282004_1] (0, 0) _ rfl (by (with_reducible repeat (first | refine blk_drewN ?_ _ | refine blk_drew ?_ | refine blk_alloc ?_ _)); refine blk_put (cs := #[.int .i64 x282000_1, .int .i64 x282001_1, .int .i64 x282002_1, .int .i64 x282003_1, .int .i64 0]) ?_ 4 _ rfl; (with_reducible repeat (first | refine blk_drewN ?_ _ | refine blk_drew ?_ | refine blk_alloc ?_ _)); refine blk_put (cs := #[.int .i64 x282000_1, .int .i64 x282001_1, .int .i64 x282002_1, .int .i64 0, .int .i64 0]) ?_ 3 _ rfl; (with_reducible repeat (first | refine blk_drewN ?_ _ | refine blk_drew ?_ | refine blk_alloc ?_ _)); refine blk_put (cs := #[.int .i64 x282000_1, .int .i64 x282001_1, .int .i64 0, .int .i64 0, .int .i64 0]) ?_ 2 _ rfl; (with_reducible repeat (first | refine blk_drewN ?_ _ | refine blk_drew ?_ | refine blk_alloc ?_ _)); refine blk_put (cs := #[.int .i64 x282000_1, .int .i64 0, .int .i64 0, .int .i64 0, .int .i64 0]) ?_ 1 _ rfl; (with_reducible repeat (first | refine blk_drewN ?_ _ | refine blk_drew ?_ | refine blk_alloc ?_ _)); refine blk_put (cs := #[.int .i64 0, .int .i64 0, .int .i64 0, .int .i64 0, .int .i64 0]) ?_ 0 _ rfl; (with_reducible repeat (first | refine blk_drewN ?_ _ | refine blk_drew ?_ | refine blk_alloc ?_ _)); exact BK279.out) Try.underlying51 rfl (by kernel_rfl)) rfl ?_
    exact ⟨ew_, bs2_ HB GE279 GE281⟩
   rw [if_pos c8] at H
   have c8b0 : decide (x6_1 < (l0.length : Int)) = true := decide_eq_true c8
   clear c8
   by_cases c9 : 0 ≤ x6_1
   rotate_left
   ·rw [if_neg c9] at H
    exact absurd H (by simp)
   rw [if_pos c9] at H
   have c9b0 : decide (0 ≤ x6_1) = true := decide_eq_true c9
   clear c9
   by_cases c10 : ((rd_T51 l0 x6_1).f0) ≤ a1
   rotate_left
   ·rw [if_neg c10] at H
    have c10b0 : decide (((rd_T51 l0 x6_1).f0) ≤ a1) = false := decide_eq_false c10
    clear c10
    have H' := mk_ H
    clear H
    have p282 : 0 ≤ (x6_1 : Int) := od_
    have q282 : x6_1 < (l0.length : Int) := od_
    obtain ⟨ad282, e282, hx282_0, hx282_1, hx282_2, hx282_3, hx282_4⟩ := at_T51 HR0.out x6_1 p282 q282
    obtain rfl : ad280 = ad282 := (by injection e282)
    replace hx282_0 := cb_ HB hx282_0
    replace hx282_1 := cb_ HB hx282_1
    replace hx282_2 := cb_ HB hx282_2
    replace hx282_3 := cb_ HB hx282_3
    replace hx282_4 := cb_ HB hx282_4
    replace p282 := eq_true p282
    replace q282 := eq_true q282
    go_wp2
    go_roundg k1
    case measure => have := HK1.out; omega
    case rel => exact ⟨(wrap64 (x6_1 + 1)), (x282000_1), (x282001_1), (x282002_1), (x282003_1), (x282004_1), sd_, H', ⟨by have := HK1.out; omega⟩, ⟨kk_ BK279⟩, ⟨kk_ BK281⟩, ⟨bs2_ HB GE279 GE281⟩⟩
   rw [if_pos c10] at H
   have c10b0 : decide (((rd_T51 l0 x6_1).f0) ≤ a1) = true := decide_eq_true c10
   clear c10
   have H' := mk_ H
   clear H
   have p282 : 0 ≤ (x6_1 : Int) := od_
   have q282 : x6_1 < (l0.length : Int) := od_
   obtain ⟨ad282, e282, hx282_0, hx282_1, hx282_2, hx282_3, hx282_4⟩ := at_T51 HR0.out x6_1 p282 q282
   obtain rfl : ad280 = ad282 := (by injection e282)
   replace hx282_0 := cb_ HB hx282_0
   replace hx282_1 := cb_ HB hx282_1
   replace hx282_2 := cb_ HB hx282_2
   replace hx282_3 := cb_ HB hx282_3
   replace hx282_4 := cb_ HB hx282_4
   replace p282 := eq_true p282
   replace q282 := eq_true q282
   have p283 : 0 ≤ (x6_1 : Int) := od_
   have q283 : x6_1 < (l0.length : Int) := od_
   obtain ⟨ad283, e283, hx283_0, hx283_1, hx283_2, hx283_3, hx283_4⟩ := at_T51 HR0.out x6_1 p283 q283
   obtain rfl : ad280 = ad283 := (by injection e283)
   replace hx283_0 := cb_ HB hx283_0
   replace hx283_1 := cb_ HB hx283_1
   replace hx283_2 := cb_ HB hx283_2
   replace hx283_3 := cb_ HB hx283_3
   replace hx283_4 := cb_ HB hx283_4
   replace p283 := eq_true p283
   replace q283 := eq_true q283
   have hnb11 := NB281_279.out
   have hnc11 := NB279_281.out
   have hcz12_0 := bc0_ BK281.out
   have hcz12_1 := bc1_ BK281.out
   have hcz12_2 := bc2_ BK281.out
   have hcz12_3 : wr.cell? ⟨gb281, 3, none⟩ = some (.int .i64 x282003_1) := (blk_cell BK281.out 3).trans rfl
   have hcz12_4 : wr.cell? ⟨gb281, 4, none⟩ = some (.int .i64 x282004_1) := (blk_cell BK281.out 4).trans rfl
   have hfz12_0 := blk_frozen BK281.out 0
   have hfz12_1 := blk_frozen BK281.out 1
   have hfz12_2 := blk_frozen BK281.out 2
   have hfz12_3 := blk_frozen BK281.out 3
   have hfz12_4 := blk_frozen BK281.out 4
   go_wp2
   go_roundg k1
   case measure => have := HK1.out; omega
   case rel => exact ⟨(wrap64 (x6_1 + 1)), ((rd_T51 l0 x6_1).f0), ((rd_T51 l0 x6_1).f1.f0), ((rd_T51 l0 x6_1).f1.f1), ((rd_T51 l0 x6_1).f2.f0), ((rd_T51 l0 x6_1).f2.f1), sd_, H', ⟨by have := HK1.out; omega⟩, ⟨by (with_reducible repeat (first | refine blk_drewN ?_ _ | refine blk_drew ?_ | refine blk_alloc ?_ _)); refine blk_far ?_ NB279_281.out _; (with_reducible repeat (first | refine blk_drewN ?_ _ | refine blk_drew ?_ | refine blk_alloc ?_ _)); refine blk_far ?_ NB279_281.out _; (with_reducible repeat (first | refine blk_drewN ?_ _ | refine blk_drew ?_ | refine blk_alloc ?_ _)); refine blk_far ?_ NB279_281.out _; (with_reducible repeat (first | refine blk_drewN ?_ _ | refine blk_drew ?_ | refine blk_alloc ?_ _)); refine blk_far ?_ NB279_281.out _; (with_reducible repeat (first | refine blk_drewN ?_ _ | refine blk_drew ?_ | refine blk_alloc ?_ _)); refine blk_far ?_ NB279_281.out _; (with_reducible repeat (first | refine blk_drewN ?_ _ | refine blk_drew ?_ | refine blk_alloc ?_ _)); exact BK279.out⟩, ⟨by (with_reducible repeat (first | refine blk_drewN ?_ _ | refine blk_drew ?_ | refine blk_alloc ?_ _)); refine blk_put (cs := #[.int .i64 ((rd_T51 l0 x6_1).f0), .int .i64 ((rd_T51 l0 x6_1).f1.f0), .int .i64 ((rd_T51 l0 x6_1).f1.f1), .int .i64 ((rd_T51 l0 x6_1).f2.f0), .int .i64 x282004_1]) ?_ 4 _ rfl; (with_reducible repeat (first | refine blk_drewN ?_ _ | refine blk_drew ?_ | refine blk_alloc ?_ _)); refine blk_put (cs := #[.int .i64 ((rd_T51 l0 x6_1).f0), .int .i64 ((rd_T51 l0 x6_1).f1.f0), .int .i64 ((rd_T51 l0 x6_1).f1.f1), .int .i64 x282003_1, .int .i64 x282004_1]) ?_ 3 _ rfl; (with_reducible repeat (first | refine blk_drewN ?_ _ | refine blk_drew ?_ | refine blk_alloc ?_ _)); refine blk_put (cs := #[.int .i64 ((rd_T51 l0 x6_1).f0), .int .i64 ((rd_T51 l0 x6_1).f1.f0), .int .i64 x282002_1, .int .i64 x282003_1, .int .i64 x282004_1]) ?_ 2 _ rfl; (with_reducible repeat (first | refine blk_drewN ?_ _ | refine blk_drew ?_ | refine blk_alloc ?_ _)); refine blk_put (cs := #[.int .i64 ((rd_T51 l0 x6_1).f0), .int .i64 x282001_1, .int .i64 x282002_1, .int .i64 x282003_1, .int .i64 x282004_1]) ?_ 1 _ rfl; (with_reducible repeat (first | refine blk_drewN ?_ _ | refine blk_drew ?_ | refine blk_alloc ?_ _)); refine blk_put (cs := #[.int .i64 x282000_1, .int .i64 x282001_1, .int .i64 x282002_1, .int .i64 x282003_1, .int .i64 x282004_1]) ?_ 0 _ rfl; (with_reducible repeat (first | refine blk_drewN ?_ _ | refine blk_drew ?_ | refine blk_alloc ?_ _)); exact BK281.out⟩, ⟨bs2_ HB GE279 GE281⟩⟩
end
section
def cohousingref05_gcd.l0 : Nat → Int → Int → Option (Int)
 | 0, _, _ => none
 | k + 1, x0, x1 => if x1 > 0 then (if x1 = 0 then (none) else (cohousingref05_gcd.l0 k x1 (Int.tmod x0 x1))) else (some x0)
def cohousingref05_gcd.f (k : Nat) (a0 : Int) (a1 : Int) : Option (Int) := cohousingref05_gcd.l0 k a0 a1
theorem cohousingref05_gcd.mono_l : ∀ k, (∀ y0 y1, LeO (cohousingref05_gcd.l0 k y0 y1) (cohousingref05_gcd.l0 (k + 1) y0 y1))
 | 0 => fun _ _ r h => by simp [cohousingref05_gcd.l0] at h
 | k + 1 => by
  have ih0 := cohousingref05_gcd.mono_l k
  ·intro y0 y1
   unfold cohousingref05_gcd.l0
   repeat' first
   | (with_reducible exact ih0 _ _)
   | (with_reducible exact LeO.refl _)
   | (with_reducible exact LeO.none _)
   | (with_reducible refine LeO.ite ?_ ?_)
   | (with_reducible refine LeO.bind ?_ (fun _ => ?_))
   | exact ih0 _ _
   | exact LeO.none _
   | refine LeO.ite ?_ ?_
   | refine LeO.bind ?_ (fun _ => ?_)
theorem cohousingref05_gcd.mono : ∀ a0 a1 k, LeO (cohousingref05_gcd.f k a0 a1) (cohousingref05_gcd.f (k + 1) a0 a1) := by
 intro a0 a1 k
 have ih0 := cohousingref05_gcd.mono_l k
 unfold cohousingref05_gcd.f
 repeat' first
   | (with_reducible exact ih0 _ _)
   | (with_reducible exact LeO.refl _)
   | (with_reducible exact LeO.none _)
   | (with_reducible refine LeO.ite ?_ ?_)
   | (with_reducible refine LeO.bind ?_ (fun _ => ?_))
   | exact ih0 _ _
   | exact LeO.none _
   | refine LeO.ite ?_ ?_
   | refine LeO.bind ?_ (fun _ => ?_)
theorem cohousingref05_gcd.calls (k : Nat) (a0 : Int) (a1 : Int) (r : Int) (w : World) (h : cohousingref05_gcd.f k a0 a1 = some r) :
  Calls Try.prog 55 #[.int .i64 a0, .int .i64 a1] w fun e w' => e = .returned (.int .i64 r) ∧ Drawn0 w w' := by
 have H : (cohousingref05_gcd.l0 k a0 a1) = some r := h
 clear h
 have H' := mk_ H
 clear H
 go_enter Try.func55, Try.ntmps55
 go_wp2
 go_loopg [0, 1] k (fun kq v0 v1 w' => ∃ (x0_1 : Int) (x1_1 : Int), v0 = .int .i64 x0_1 ∧ v1 = .int .i64 x1_1 ∧ Aside0 (cohousingref05_gcd.l0 kq x0_1 x1_1 = some r) ∧ Aside0 (kq ≤ k) ∧ Drawn0 w w')
 case atStart => exact ⟨(a0), (a1), sd_, sd_, H', ⟨Nat.le_refl _⟩, by repeat (first | exact Drawn0.refl _ | apply Drawn0.step)⟩
 case round =>
  clear H'
  obtain ⟨x0_1, x1_1, rfl, rfl, HA, HK1, ⟨m1, rfl⟩⟩ := hrel
  cases gk with
  | zero => exact absurd HA.out (by simp [cohousingref05_gcd.l0])
  | succ k1 =>
   have H := HA.out
   clear HA
   simp only [cohousingref05_gcd.l0] at H
   by_cases c3 : x1_1 > 0
   rotate_left
   ·rw [if_neg c3] at H
    have c3b0 : decide (0 < x1_1) = false := decide_eq_false c3
    clear c3
    obtain rfl := Option.some.inj H
    go_wp2
    go_ret
    exact ⟨by first | rfl | (simp; done) | (simp [*]; done), by repeat (first | exact Drawn0.refl _ | apply Drawn0.step)⟩
   rw [if_pos c3] at H
   have c3b0 : decide (0 < x1_1) = true := decide_eq_true c3
   clear c3
   by_cases c4 : x1_1 = 0
   ·rw [if_pos c4] at H
    exact absurd H (by simp)
   rw [if_neg c4] at H
   have c4b0 : (x1_1 == 0) = false := beq_eq_false_iff_ne.mpr c4
   have c4b1 : (x1_1 != 0) = true := bne_iff_ne.mpr c4
   have H' := mk_ H
   clear H
   go_wp2
   go_roundg k1
   case measure => have := HK1.out; omega
   case rel => exact ⟨(x1_1), (Int.tmod x0_1 x1_1), sd_, sd_, H', ⟨by have := HK1.out; omega⟩, by repeat (first | exact Drawn0.refl _ | apply Drawn0.step)⟩
end
section
def cohousingref05_Reduce.f (k : Nat) (a0 : Int) (a1 : Int) : Option (Int × Int) := if a0 < 0 then ((cohousingref05_gcd.f k (wrap64 (-a0)) a1).bind fun t285 => (if t285 = 0 then (none) else (some (wrap64 (Int.tdiv a0 t285), wrap64 (Int.tdiv a1 t285))))) else ((cohousingref05_gcd.f k a0 a1).bind fun t286 => (if t286 = 0 then (none) else (some (wrap64 (Int.tdiv a0 t286), wrap64 (Int.tdiv a1 t286)))))
def cohousingref05_Reduce.T5 : Bool × List (List Nat × List Nat) := (true, [([], []), ([], []), ([0, 1], [0, 1]), ([], []), ([], []), ([3, 4], [3, 4]), ([2, 5], [2, 5]), ([6, 0, 1, 2, 3, 4, 5, 6], [6])])
def cohousingref05_Reduce.B5 : List Nat := [0, 0, 3, 0, 0, 24, 63, 127]
theorem cohousingref05_Reduce.tab5 : rtab .any (opsOf Try.f32 5) = cohousingref05_Reduce.T5 := by kernel_rfl
theorem cohousingref05_Reduce.bits5 : waitsOk cohousingref05_Reduce.T5.2 cohousingref05_Reduce.B5 = true := by kernel_rfl
theorem cohousingref05_Reduce.calls (k : Nat) (a0 : Int) (a1 : Int) (r1 : Int) (r2 : Int) (w : World) (h : cohousingref05_Reduce.f k a0 a1 = some (r1, r2)) :
  Calls Try.prog 32 #[.int .i64 a0, .int .i64 a1] w fun e w' => e = .returned (.agg #[.int .i64 r1, .int .i64 r2]) ∧ Below w.heap.size w w' := by
 have hu24 := Try.underlying24
 have HB := mk_ (Below.refl w.heap.size w)
 have H : (if a0 < 0 then ((cohousingref05_gcd.f k (wrap64 (-a0)) a1).bind fun t285 => (if t285 = 0 then (none) else (some (wrap64 (Int.tdiv a0 t285), wrap64 (Int.tdiv a1 t285))))) else ((cohousingref05_gcd.f k a0 a1).bind fun t286 => (if t286 = 0 then (none) else (some (wrap64 (Int.tdiv a0 t286), wrap64 (Int.tdiv a1 t286)))))) = some (r1, r2) := h
 clear h
 by_cases c3 : a0 < 0
 rotate_left
 ·rw [if_neg c3] at H
  have c3b0 : decide (a0 < 0) = false := decide_eq_false c3
  clear c3
  replace H := Option.bind_eq_some_iff.mp H
  obtain ⟨t286, A100, H⟩ := H
  replace H : (if t286 = 0 then (none) else (some (wrap64 (Int.tdiv a0 t286), wrap64 (Int.tdiv a1 t286)))) = some (r1, r2) := H
  have A10 := mk_ A100
  clear A100
  by_cases c11 : t286 = 0
  ·rw [if_pos c11] at H
   exact absurd H (by simp)
  rw [if_neg c11] at H
  have c11b0 : (t286 == 0) = false := beq_eq_false_iff_ne.mpr c11
  have c11b1 : (t286 != 0) = true := bne_iff_ne.mpr c11
  simp only [Option.some.injEq, Prod.mk.injEq] at H
  obtain ⟨rfl, rfl⟩ := H
  go_enter Try.func32, Try.ntmps32
  try go_wp2_with (first | ((with_reducible refine gate_dst (N := 4) rfl ?_); refine box_event ?hg (N := 4) ?hd (cs := #[.int .i64 0, .int .i64 0]) (t := 24) ?hr ?_; (case hd => rfl); (case hg => rfl); (case hr => first | (go_simp; done) | (go_simp; rfl)); intro gb284 hg w12 hbox hb; have BK284 := mk_ (hbox); have GW284 := mk_ (bz_ hg (bb_ HB)); have GE284 := mk_ (bz_ hg (bb_ HB)); replace HB := mk_ (below_step (bb_ HB) hb); clear hb hbox hg) | ((with_reducible refine gate_callee (f := 55) rfl ?_); refine gl_ (some 14) Try.func55 #[.int .i64 a0, .int .i64 a1] ?_; (with_reducible refine (cohousingref05_gcd.calls k a0 a1 t286 _ A10.out).mono ?_); rintro e w' ⟨rfl, ⟨nd, rfl⟩⟩; refine ⟨_, rfl, ?_⟩; (try (rw [drewN_self w12]; generalize hq_ : World.drewN w12 _ = w12; have n0_ : Aside0 (w12.heap[gb284]? = some (.cells #[.int .i64 0, .int .i64 0] 24 (0, 0))) := ⟨by rw [← hq_]; exact (kk_ BK284)⟩; have n1_ : Aside0 (Below w.heap.size w w12) := ⟨by rw [← hq_]; exact (bs_ HB GE284.out)⟩; clear BK284 HB hq_; revert n0_ n1_; intro BK284 HB))))
  replace BK284 := mk_ (blk_drew BK284.out)
  replace HB := mk_ (below_drew1 HB.out)
  refine start_ (n := 8) (S := fun w' => True) (ds := []) #[n_, n_, n_, n_, n_, n_, n_, n_] (by kernel_rfl) rfl rfl trivial (fun hHeld => ?_); refine with_tabW cohousingref05_Reduce.tab5 cohousingref05_Reduce.bits5 (fun HT_ HW_ => ?_)
  generalize w12.drew = w13 at BK284 HB hHeld ⊢
  refine pu_ 0 15 (w_ 8 1) rfl HT_ ?_
  refine pu_ 1 16 (w_ 8 3) rfl HT_ ?_
  refine pu_ 2 17 (w_ 8 7) rfl HT_ ?_
  refine pu_ 3 18 (w_ 8 15) rfl HT_ ?_
  refine pu_ 4 19 (w_ 8 31) rfl HT_ ?_
  refine pu_ 5 20 (w_ 8 63) rfl HT_ ?_
  refine pu_ 6 21 (w_ 8 127) rfl HT_ ?_
  refine one_ (i := 7) (N := none) (w_ 8 255) rfl rfl (one_of HT_.out (by kernel_rfl)) (by decide) (fun K hK => ?_)
  have hs14 : w13.cell? ⟨gb284, 0, none⟩ = some (.int .i64 0) := (blk_cell BK284.out 0).trans rfl
  have hfs14 := blk_frozen BK284.out 0
  have hs15 : w13.cell? ⟨gb284, 1, none⟩ = some (.int .i64 0) := (blk_cell BK284.out 1).trans rfl
  have hfs15 := blk_frozen BK284.out 1
  refine skip_ (w1 := ?_) (by rfl) rfl ?_ ?_
  rotate_left
  ·go_simp
   rfl
  refine hK.out _ _ trivial (fun hHeld => ?_)
  clear hK K
  refine done_ (done_of HT_.out (by kernel_rfl)) ?_
  try go_wp2
  refine bodyPost_ret (results_cell_row rfl _ _ gb284 24 #[.int .i64 (wrap64 (Int.tdiv a0 t286)), .int .i64 (wrap64 (Int.tdiv a1 t286))] (0, 0) _ rfl (by (with_reducible repeat (first | refine blk_drewN ?_ _ | refine blk_drew ?_ | refine blk_alloc ?_ _)); refine blk_put (cs := #[.int .i64 (wrap64 (Int.tdiv a0 t286)), .int .i64 0]) ?_ 1 _ rfl; (with_reducible repeat (first | refine blk_drewN ?_ _ | refine blk_drew ?_ | refine blk_alloc ?_ _)); refine blk_put (cs := #[.int .i64 0, .int .i64 0]) ?_ 0 _ rfl; (with_reducible repeat (first | refine blk_drewN ?_ _ | refine blk_drew ?_ | refine blk_alloc ?_ _)); exact BK284.out) Try.underlying24 rfl (by kernel_rfl)) rfl ?_
  exact ⟨ew_, bs1_ HB GE284⟩
 rw [if_pos c3] at H
 have c3b0 : decide (a0 < 0) = true := decide_eq_true c3
 clear c3
 replace H := Option.bind_eq_some_iff.mp H
 obtain ⟨t285, A40, H⟩ := H
 replace H : (if t285 = 0 then (none) else (some (wrap64 (Int.tdiv a0 t285), wrap64 (Int.tdiv a1 t285)))) = some (r1, r2) := H
 have A4 := mk_ A40
 clear A40
 by_cases c5 : t285 = 0
 ·rw [if_pos c5] at H
  exact absurd H (by simp)
 rw [if_neg c5] at H
 have c5b0 : (t285 == 0) = false := beq_eq_false_iff_ne.mpr c5
 have c5b1 : (t285 != 0) = true := bne_iff_ne.mpr c5
 simp only [Option.some.injEq, Prod.mk.injEq] at H
 obtain ⟨rfl, rfl⟩ := H
 go_enter Try.func32, Try.ntmps32
 try go_wp2_with (first | ((with_reducible refine gate_dst (N := 4) rfl ?_); refine box_event ?hg (N := 4) ?hd (cs := #[.int .i64 0, .int .i64 0]) (t := 24) ?hr ?_; (case hd => rfl); (case hg => rfl); (case hr => first | (go_simp; done) | (go_simp; rfl)); intro gb284 hg w6 hbox hb; have BK284 := mk_ (hbox); have GW284 := mk_ (bz_ hg (bb_ HB)); have GE284 := mk_ (bz_ hg (bb_ HB)); replace HB := mk_ (below_step (bb_ HB) hb); clear hb hbox hg) | ((with_reducible refine gate_callee (f := 55) rfl ?_); refine gl_ (some 14) Try.func55 #[.int .i64 (wrap64 (-a0)), .int .i64 a1] ?_; (with_reducible refine (cohousingref05_gcd.calls k (wrap64 (-a0)) a1 t285 _ A4.out).mono ?_); rintro e w' ⟨rfl, ⟨nd, rfl⟩⟩; refine ⟨_, rfl, ?_⟩; (try (rw [drewN_self w6]; generalize hq_ : World.drewN w6 _ = w6; have n0_ : Aside0 (w6.heap[gb284]? = some (.cells #[.int .i64 0, .int .i64 0] 24 (0, 0))) := ⟨by rw [← hq_]; exact (kk_ BK284)⟩; have n1_ : Aside0 (Below w.heap.size w w6) := ⟨by rw [← hq_]; exact (bs_ HB GE284.out)⟩; clear BK284 HB hq_; revert n0_ n1_; intro BK284 HB))))
 replace BK284 := mk_ (blk_drew BK284.out)
 replace HB := mk_ (below_drew1 HB.out)
 refine start_ (n := 8) (S := fun w' => True) (ds := []) #[n_, n_, n_, n_, n_, n_, n_, n_] (by kernel_rfl) rfl rfl trivial (fun hHeld => ?_); refine with_tabW cohousingref05_Reduce.tab5 cohousingref05_Reduce.bits5 (fun HT_ HW_ => ?_)
 generalize w6.drew = w7 at BK284 HB hHeld ⊢
 refine pu_ 0 15 (w_ 8 1) rfl HT_ ?_
 refine pu_ 1 16 (w_ 8 3) rfl HT_ ?_
 refine pu_ 2 17 (w_ 8 7) rfl HT_ ?_
 refine pu_ 3 18 (w_ 8 15) rfl HT_ ?_
 refine pu_ 4 19 (w_ 8 31) rfl HT_ ?_
 refine pu_ 5 20 (w_ 8 63) rfl HT_ ?_
 refine pu_ 6 21 (w_ 8 127) rfl HT_ ?_
 refine one_ (i := 7) (N := none) (w_ 8 255) rfl rfl (one_of HT_.out (by kernel_rfl)) (by decide) (fun K hK => ?_)
 have hs8 : w7.cell? ⟨gb284, 0, none⟩ = some (.int .i64 0) := (blk_cell BK284.out 0).trans rfl
 have hfs8 := blk_frozen BK284.out 0
 have hs9 : w7.cell? ⟨gb284, 1, none⟩ = some (.int .i64 0) := (blk_cell BK284.out 1).trans rfl
 have hfs9 := blk_frozen BK284.out 1
 refine skip_ (w1 := ?_) (by rfl) rfl ?_ ?_
 rotate_left
 ·go_simp
  rfl
 refine hK.out _ _ trivial (fun hHeld => ?_)
 clear hK K
 refine done_ (done_of HT_.out (by kernel_rfl)) ?_
 try go_wp2
 refine bodyPost_ret (results_cell_row rfl _ _ gb284 24 #[.int .i64 (wrap64 (Int.tdiv a0 t285)), .int .i64 (wrap64 (Int.tdiv a1 t285))] (0, 0) _ rfl (by (with_reducible repeat (first | refine blk_drewN ?_ _ | refine blk_drew ?_ | refine blk_alloc ?_ _)); refine blk_put (cs := #[.int .i64 (wrap64 (Int.tdiv a0 t285)), .int .i64 0]) ?_ 1 _ rfl; (with_reducible repeat (first | refine blk_drewN ?_ _ | refine blk_drew ?_ | refine blk_alloc ?_ _)); refine blk_put (cs := #[.int .i64 0, .int .i64 0]) ?_ 0 _ rfl; (with_reducible repeat (first | refine blk_drewN ?_ _ | refine blk_drew ?_ | refine blk_alloc ?_ _)); exact BK284.out) Try.underlying24 rfl (by kernel_rfl)) rfl ?_
 exact ⟨ew_, bs1_ HB GE284⟩
end
section
def cohousingref05_Line.f (k : Nat) (a0_0 : Int) (a0_1 : Int) (a0_2 : Int) (a0_3 : Int) (a0_4 : Int) (a1 : Int) : Option (Int × Int) := (cohousingref05_Reduce.f k (wrap64 ((wrap64 (a0_1 * a0_4)) + (wrap64 ((wrap64 (a0_3 * (wrap64 (a1 - a0_0)))) * a0_2)))) (wrap64 (a0_2 * a0_4))).bind fun bt289 => (some (bt289.1, bt289.2))
theorem cohousingref05_Line.calls (k : Nat) (a0_0 : Int) (a0_1 : Int) (a0_2 : Int) (a0_3 : Int) (a0_4 : Int) (a1 : Int) (r1 : Int) (r2 : Int) (w : World) (h : cohousingref05_Line.f k a0_0 a0_1 a0_2 a0_3 a0_4 a1 = some (r1, r2)) :
  Calls Try.prog 44 #[.agg #[.int .i64 a0_0, .int .i64 a0_1, .int .i64 a0_2, .int .i64 a0_3, .int .i64 a0_4], .int .i64 a1] w fun e w' => e = .returned (.agg #[.int .i64 r1, .int .i64 r2]) ∧ Below w.heap.size w w' := by
 have hu51 := Try.underlying51
 have hu24 := Try.underlying24
 have HB := mk_ (Below.refl w.heap.size w)
 have H : ((cohousingref05_Reduce.f k (wrap64 ((wrap64 (a0_1 * a0_4)) + (wrap64 ((wrap64 (a0_3 * (wrap64 (a1 - a0_0)))) * a0_2)))) (wrap64 (a0_2 * a0_4))).bind fun bt289 => (some (bt289.1, bt289.2))) = some (r1, r2) := h
 clear h
 replace H := Option.bind_eq_some_iff.mp H
 obtain ⟨⟨t289, t290⟩, A30, H⟩ := H
 replace H : (some (t289, t290)) = some (r1, r2) := H
 have A3 := mk_ A30
 clear A30
 simp only [Option.some.injEq, Prod.mk.injEq] at H
 obtain ⟨rfl, rfl⟩ := H
 go_enter Try.func44, Try.ntmps44
 go_wp2_with (first | ((with_reducible refine gate_dst (N := 2) rfl ?_); refine box_event ?hg (N := 2) ?hd (cs := #[.int .i64 a0_0, .int .i64 a0_1, .int .i64 a0_2, .int .i64 a0_3, .int .i64 a0_4]) (t := 51) ?hr ?_; (case hd => rfl); (case hg => rfl); (case hr => first | (go_simp; done) | (go_simp; rfl)); intro gb287 hg w4 hbox hb; have BK287 := mk_ (hbox); have GW287 := mk_ (bz_ hg (bb_ HB)); have GE287 := mk_ (bz_ hg (bb_ HB)); replace HB := mk_ (below_step (bb_ HB) hb); clear hb hbox hg) | ((with_reducible refine gate_dst (N := 4) rfl ?_); refine box_event ?hg (N := 4) ?hd (cs := #[.int .i64 0, .int .i64 0]) (t := 24) ?hr ?_; (case hd => rfl); (case hg => rfl); (case hr => first | (go_simp; done) | (go_simp; rfl)); intro gb288 hg w5 hbox hb; have BK288 := mk_ (hbox); have GW288 := mk_ (bz_ hg (bs_ HB GE287.out)); have GE288 := mk_ (bz_ hg (bs_ HB GE287.out)); replace HB := mk_ (below_step (bs_ HB GE287.out) hb); have NB287_288 := mk_ (bl_ hg (kk_ BK287)); have NB288_287 := mk_ (bg_ hg (kk_ BK287)); replace BK287 := mk_ (blk_below (kk_ BK287) hb); clear hb hbox hg; have hnb6 := NB287_288.out; have hnc6 := NB288_287.out; have hcz7_0 := bc0_ BK287.out; have hcz7_1 := bc1_ BK287.out; have hcz7_2 := bc2_ BK287.out; have hcz7_3 : w5.cell? ⟨gb287, 3, none⟩ = some (.int .i64 a0_3) := (blk_cell BK287.out 3).trans rfl; have hcz7_4 : w5.cell? ⟨gb287, 4, none⟩ = some (.int .i64 a0_4) := (blk_cell BK287.out 4).trans rfl; have hfz7_0 := blk_frozen BK287.out 0; have hfz7_1 := blk_frozen BK287.out 1; have hfz7_2 := blk_frozen BK287.out 2; have hfz7_3 := blk_frozen BK287.out 3; have hfz7_4 := blk_frozen BK287.out 4) | ((with_reducible refine gate_callee (f := 32) rfl ?_); refine gl_ (some 34) Try.func32 #[.int .i64 (wrap64 ((wrap64 (a0_1 * a0_4)) + (wrap64 ((wrap64 (a0_3 * (wrap64 (a1 - a0_0)))) * a0_2)))), .int .i64 (wrap64 (a0_2 * a0_4))] ?_; (with_reducible refine (cohousingref05_Reduce.calls k (wrap64 ((wrap64 (a0_1 * a0_4)) + (wrap64 ((wrap64 (a0_3 * (wrap64 (a1 - a0_0)))) * a0_2)))) (wrap64 (a0_2 * a0_4)) t289 t290 _ A3.out).mono ?_); rintro e w8 ⟨rfl, hb⟩; refine ⟨_, rfl, ?_⟩; replace BK287 := mk_ (blk_below (kk_ BK287) hb); replace BK288 := mk_ (blk_below (kk_ BK288) hb); replace HB := mk_ (below_step (bs2_ HB GE287 GE288) hb); (try clear hb); have hcz9_0 := bc0_ BK288.out; have hcz9_1 := bc1_ BK288.out; have hfz9_0 := blk_frozen BK288.out 0; have hfz9_1 := blk_frozen BK288.out 1))
 refine bodyPost_ret (results_cell_row rfl _ _ gb288 24 #[.int .i64 t289, .int .i64 t290] (0, 0) _ rfl (by (with_reducible repeat (first | refine blk_drewN ?_ _ | refine blk_drew ?_ | refine blk_alloc ?_ _)); refine blk_put (cs := #[.int .i64 t289, .int .i64 0]) ?_ 1 _ rfl; (with_reducible repeat (first | refine blk_drewN ?_ _ | refine blk_drew ?_ | refine blk_alloc ?_ _)); refine blk_put (cs := #[.int .i64 0, .int .i64 0]) ?_ 0 _ rfl; (with_reducible repeat (first | refine blk_drewN ?_ _ | refine blk_drew ?_ | refine blk_alloc ?_ _)); exact BK288.out) Try.underlying24 rfl (by kernel_rfl)) rfl ?_
 exact ⟨ew_, bs2_ HB GE287 GE288⟩
end
section
def cohousingref05_Value.f (k : Nat) (l0 : List (S51)) (a1 : Int) : Option (Int × Int) := (cohousingref05_Piece.f k l0 a1).bind fun bt292 => ((cohousingref05_Line.f k bt292.1 bt292.2.1 bt292.2.2.1 bt292.2.2.2.1 bt292.2.2.2.2 a1).bind fun bt297 => (some (bt297.1, bt297.2)))
theorem cohousingref05_Value.calls (k : Nat) (A0 : Option Addr) (c0 : Nat) (l0 : List (S51)) (a1 : Int) (r1 : Int) (r2 : Int) (w : World) (hr0 : Kd.C k51 w A0 l0.length l0) (hc0 : l0.length ≤ c0) (h : cohousingref05_Value.f k l0 a1 = some (r1, r2)) :
  Calls Try.prog 27 #[.slice A0 l0.length c0, .int .i64 a1] w fun e w' => e = .returned (.agg #[.int .i64 r1, .int .i64 r2]) ∧ Below w.heap.size w w' := by
 have hu24 := Try.underlying24
 have HR0 := mk_ hr0
 have HC0 := mk_ hc0
 clear hr0 hc0
 have HB := mk_ (Below.refl w.heap.size w)
 have H : ((cohousingref05_Piece.f k l0 a1).bind fun bt292 => ((cohousingref05_Line.f k bt292.1 bt292.2.1 bt292.2.2.1 bt292.2.2.2.1 bt292.2.2.2.2 a1).bind fun bt297 => (some (bt297.1, bt297.2)))) = some (r1, r2) := h
 clear h
 replace H := Option.bind_eq_some_iff.mp H
 obtain ⟨⟨t292, t293, t294, t295, t296⟩, A30, H⟩ := H
 replace H : ((cohousingref05_Line.f k t292 t293 t294 t295 t296 a1).bind fun bt297 => (some (bt297.1, bt297.2))) = some (r1, r2) := H
 have A3 := mk_ A30
 clear A30
 replace H := Option.bind_eq_some_iff.mp H
 obtain ⟨⟨t297, t298⟩, A40, H⟩ := H
 replace H : (some (t297, t298)) = some (r1, r2) := H
 have A4 := mk_ A40
 clear A40
 simp only [Option.some.injEq, Prod.mk.injEq] at H
 obtain ⟨rfl, rfl⟩ := H
 go_enter Try.func27, Try.ntmps27
 go_wp2_with (first | ((with_reducible refine gate_dst (N := 4) rfl ?_); refine box_event ?hg (N := 4) ?hd (cs := #[.int .i64 0, .int .i64 0]) (t := 24) ?hr ?_; (case hd => rfl); (case hg => rfl); (case hr => first | (go_simp; done) | (go_simp; rfl)); intro gb291 hg w5 hbox hb; have BK291 := mk_ (hbox); have GW291 := mk_ (bz_ hg (bb_ HB)); have GE291 := mk_ (bz_ hg (bb_ HB)); replace HB := mk_ (below_step (bb_ HB) hb); clear hb hbox hg) | ((with_reducible refine gate_callee (f := 43) rfl ?_); refine gl_ (some 7) Try.func43 #[.slice A0 l0.length c0, .int .i64 a1] ?_; (with_reducible refine (cohousingref05_Piece.calls k _ _ l0 a1 t292 t293 t294 t295 t296 _ ?side1 ?side2 A3.out).mono ?_); (case side1 => exact cc_ ((Kd.C_below HR0.out HB.out))); (case side2 => exact HC0.out); rintro e w6 ⟨rfl, hb⟩; refine ⟨_, rfl, ?_⟩; replace BK291 := mk_ (blk_below (kk_ BK291) hb); replace HB := mk_ (below_step (bs_ HB GE291.out) hb); (try clear hb)) | ((with_reducible refine gate_callee (f := 44) rfl ?_); refine gl_ (some 9) Try.func44 #[.agg #[.int .i64 t292, .int .i64 t293, .int .i64 t294, .int .i64 t295, .int .i64 t296], .int .i64 a1] ?_; (with_reducible refine (cohousingref05_Line.calls k t292 t293 t294 t295 t296 a1 t297 t298 _ A4.out).mono ?_); rintro e w7 ⟨rfl, hb⟩; refine ⟨_, rfl, ?_⟩; replace BK291 := mk_ (blk_below (kk_ BK291) hb); replace HB := mk_ (below_step (bs_ HB GE291.out) hb); (try clear hb); have hcz8_0 := bc0_ BK291.out; have hcz8_1 := bc1_ BK291.out; have hfz8_0 := blk_frozen BK291.out 0; have hfz8_1 := blk_frozen BK291.out 1))
 refine bodyPost_ret (results_cell_row rfl _ _ gb291 24 #[.int .i64 t297, .int .i64 t298] (0, 0) _ rfl (by (with_reducible repeat (first | refine blk_drewN ?_ _ | refine blk_drew ?_ | refine blk_alloc ?_ _)); refine blk_put (cs := #[.int .i64 t297, .int .i64 0]) ?_ 1 _ rfl; (with_reducible repeat (first | refine blk_drewN ?_ _ | refine blk_drew ?_ | refine blk_alloc ?_ _)); refine blk_put (cs := #[.int .i64 0, .int .i64 0]) ?_ 0 _ rfl; (with_reducible repeat (first | refine blk_drewN ?_ _ | refine blk_drew ?_ | refine blk_alloc ?_ _)); exact BK291.out) Try.underlying24 rfl (by kernel_rfl)) rfl ?_
 exact ⟨ew_, bs1_ HB GE291⟩
end
section
def cohousingref05_At.j0 : Nat → List (S51) → Int → Bool → Option (Int × Int × Int)
 | 0, _, _, _ => none
 | k + 1, x0, x1, x20 => if x20 = true then (some (0, 0, 1)) else ((cohousingref05_Value.f k x0 x1).bind fun bt301 => ((cohousingref01_Valid.f k bt301.1 bt301.2).bind fun t304 => (if t304 = true then (some (bt301.1, bt301.2, 0)) else (some (0, 0, 3)))))
def cohousingref05_At.f (k : Nat) (l0 : List (S51)) (a1 : Int) : Option (Int × Int × Int) := (cohousingref05_Valid.f k l0).bind fun t300 => (if t300 = true then (if a1 < 0 then (cohousingref05_At.j0 k l0 a1 true) else (cohousingref05_At.j0 k l0 a1 (decide (a1 > 100000)))) else (cohousingref05_At.j0 k l0 a1 true))
theorem cohousingref05_At.calls (k : Nat) (A0 : Option Addr) (c0 : Nat) (l0 : List (S51)) (a1 : Int) (r1 : Int) (r2 : Int) (r3 : Int) (w : World) (hr0 : Kd.C k51 w A0 l0.length l0) (hc0 : l0.length ≤ c0) (h : cohousingref05_At.f k l0 a1 = some (r1, r2, r3)) :
  Calls Try.prog 13 #[.slice A0 l0.length c0, .int .i64 a1] w fun e w' => e = .returned (.tuple #[.agg #[.int .i64 r1, .int .i64 r2], .int .i64 r3]) ∧ Below w.heap.size w w' := by
 have hu24 := Try.underlying24
 have HR0 := mk_ hr0
 have HC0 := mk_ hc0
 clear hr0 hc0
 have HB := mk_ (Below.refl w.heap.size w)
 have H : ((cohousingref05_Valid.f k l0).bind fun t300 => (if t300 = true then (if a1 < 0 then (cohousingref05_At.j0 k l0 a1 true) else (cohousingref05_At.j0 k l0 a1 (decide (a1 > 100000)))) else (cohousingref05_At.j0 k l0 a1 true))) = some (r1, r2, r3) := h
 clear h
 replace H := Option.bind_eq_some_iff.mp H
 obtain ⟨t300, A30, H⟩ := H
 replace H : (if t300 = true then (if a1 < 0 then (cohousingref05_At.j0 k l0 a1 true) else (cohousingref05_At.j0 k l0 a1 (decide (a1 > 100000)))) else (cohousingref05_At.j0 k l0 a1 true)) = some (r1, r2, r3) := H
 have A3 := mk_ A30
 clear A30
 have HC4 := mk_ H
 clear H
 go_enter Try.func13, Try.ntmps13
 go_upto_region 2 with (first | ((with_reducible refine gate_dst (N := 4) rfl ?_); refine box_event ?hg (N := 4) ?hd (cs := #[.int .i64 0, .int .i64 0]) (t := 24) ?hr ?_; (case hd => rfl); (case hg => rfl); (case hr => first | (go_simp; done) | (go_simp; rfl)); intro gb299 hg w5 hbox hb; have BK299 := mk_ (hbox); have GW299 := mk_ (bz_ hg (bb_ HB)); have GE299 := mk_ (bz_ hg (bb_ HB)); replace HB := mk_ (below_step (bb_ HB) hb); clear hb hbox hg) | ((with_reducible refine gate_callee (f := 15) rfl ?_); refine gl_ (some 10) Try.func15 #[.slice A0 l0.length c0] ?_; (with_reducible refine (cohousingref05_Valid.calls k _ _ l0 t300 _ ?side1 ?side2 A3.out).mono ?_); (case side1 => exact cc_ ((Kd.C_below HR0.out HB.out))); (case side2 => exact HC0.out); rintro e w6 ⟨rfl, hb⟩; refine ⟨_, rfl, ?_⟩; replace BK299 := mk_ (blk_below (kk_ BK299) hb); replace HB := mk_ (below_step (bs_ HB GE299.out) hb); (try clear hb)))
 (try simp only [Act.put, sI_, s0_, sS_])
 go_cut [20] (fun v20 wc => ∃ (kq : Nat) (x20_3 : Bool), v20 = .bool x20_3 ∧ Aside0 (cohousingref05_At.j0 kq l0 a1 x20_3 = some (r1, r2, r3)) ∧ Aside0 (kq ≤ k) ∧ Aside0 (wc.heap[gb299]? = some (.cells #[.int .i64 0, .int .i64 0] 24 (0, 0))) ∧ Aside0 (Below w.heap.size w wc))
 case first =>
  have H := HC4.out
  clear HC4
  by_cases c7 : t300 = true
  rotate_left
  ·replace c7 := Bool.eq_false_iff.mpr c7
   subst c7
   have H1 : (cohousingref05_At.j0 k l0 a1 true) = some (r1, r2, r3) := by rw [if_neg (show ¬ (false = true) by decide)] at H; exact H
   clear H
   have H := H1
   clear H1
   have H' := mk_ H
   clear H
   go_wp2
   go_meet
   case rel => exact ⟨_, (true), sd_, H', ⟨by first | omega | exact Nat.le_refl _⟩, ⟨kk_ BK299⟩, ⟨bs1_ HB GE299⟩⟩
  subst c7
  have H1 : (if a1 < 0 then (cohousingref05_At.j0 k l0 a1 true) else (cohousingref05_At.j0 k l0 a1 (decide (a1 > 100000)))) = some (r1, r2, r3) := by rw [if_pos rfl] at H; exact H
  clear H
  have H := H1
  clear H1
  by_cases c8 : a1 < 0
  rotate_left
  ·rw [if_neg c8] at H
   have c8b0 : decide (a1 < 0) = false := decide_eq_false c8
   clear c8
   (first | rw [c8b0] | (simp only [i64_w, i32_w]; rw [c8b0]) | skip)
   have H' := mk_ H
   clear H
   go_wp2
   go_meet
   case rel => exact ⟨_, (decide (a1 > 100000)), sd_, H', ⟨by first | omega | exact Nat.le_refl _⟩, ⟨kk_ BK299⟩, ⟨bs1_ HB GE299⟩⟩
  rw [if_pos c8] at H
  have c8b0 : decide (a1 < 0) = true := decide_eq_true c8
  clear c8
  (first | rw [c8b0] | (simp only [i64_w, i32_w]; rw [c8b0]) | skip)
  have H' := mk_ H
  clear H
  go_wp2
  go_meet
  case rel => exact ⟨_, (true), sd_, H', ⟨by first | omega | exact Nat.le_refl _⟩, ⟨kk_ BK299⟩, ⟨bs1_ HB GE299⟩⟩
 case rest =>
  clear HC4
  obtain ⟨kq, x20_3, rfl, HA, HJ3, BK299, HB⟩ := hcut
  cases kq with
  | zero => exact absurd HA.out (by simp [cohousingref05_At.j0])
  | succ kj3 =>
   have H := HA.out
   clear HA
   simp only [cohousingref05_At.j0] at H
   by_cases c9 : x20_3 = true
   ·subst c9
    have H1 : (some (0, 0, 1)) = some (r1, r2, r3) := by rw [if_pos rfl] at H; exact H
    clear H
    have H := H1
    clear H1
    simp only [Option.some.injEq, Prod.mk.injEq] at H
    obtain ⟨rfl, rfl, rfl⟩ := H
    have hcz10_0 := bc0_ BK299.out
    have hcz10_1 := bc1_ BK299.out
    have hfz10_0 := blk_frozen BK299.out 0
    have hfz10_1 := blk_frozen BK299.out 1
    go_wp2
    refine bodyPost_ret (results_ct rfl _ _ gb299 24 #[.int .i64 0, .int .i64 0] (0, 0) _ rfl (by (with_reducible repeat (first | refine blk_drewN ?_ _ | refine blk_drew ?_ | refine blk_alloc ?_ _)); refine blk_put (cs := #[.int .i64 0, .int .i64 0]) ?_ 1 _ rfl; (with_reducible repeat (first | refine blk_drewN ?_ _ | refine blk_drew ?_ | refine blk_alloc ?_ _)); refine blk_put (cs := #[.int .i64 0, .int .i64 0]) ?_ 0 _ rfl; (with_reducible repeat (first | refine blk_drewN ?_ _ | refine blk_drew ?_ | refine blk_alloc ?_ _)); exact BK299.out) Try.underlying24 rfl (by kernel_rfl)) rfl ?_
    exact ⟨ew_, bs1_ HB GE299⟩
   replace c9 := Bool.eq_false_iff.mpr c9
   subst c9
   have H1 : ((cohousingref05_Value.f kj3 l0 a1).bind fun bt301 => ((cohousingref01_Valid.f kj3 bt301.1 bt301.2).bind fun t304 => (if t304 = true then (some (bt301.1, bt301.2, 0)) else (some (0, 0, 3))))) = some (r1, r2, r3) := by rw [if_neg (show ¬ (false = true) by decide)] at H; exact H
   clear H
   have H := H1
   clear H1
   replace H := Option.bind_eq_some_iff.mp H
   obtain ⟨⟨t301, t302⟩, A110, H⟩ := H
   replace H : ((cohousingref01_Valid.f kj3 t301 t302).bind fun t304 => (if t304 = true then (some (t301, t302, 0)) else (some (0, 0, 3)))) = some (r1, r2, r3) := H
   have A11 := mk_ A110
   clear A110
   replace H := Option.bind_eq_some_iff.mp H
   obtain ⟨t304, A120, H⟩ := H
   replace H : (if t304 = true then (some (t301, t302, 0)) else (some (0, 0, 3))) = some (r1, r2, r3) := H
   have A12 := mk_ A120
   clear A120
   by_cases c13 : t304 = true
   ·subst c13
    have H1 : (some (t301, t302, 0)) = some (r1, r2, r3) := by rw [if_pos rfl] at H; exact H
    clear H
    have H := H1
    clear H1
    simp only [Option.some.injEq, Prod.mk.injEq] at H
    obtain ⟨rfl, rfl, rfl⟩ := H
    go_wp2_with (first | ((with_reducible refine gate_callee (f := 27) rfl ?_); refine gl_ (some 24) Try.func27 #[.slice A0 l0.length c0, .int .i64 a1] ?_; (with_reducible refine (cohousingref05_Value.calls kj3 _ _ l0 a1 t301 t302 _ ?side1 ?side2 A11.out).mono ?_); (case side1 => exact cc_ ((Kd.C_below HR0.out HB.out))); (case side2 => exact HC0.out); rintro e w14 ⟨rfl, hb⟩; refine ⟨_, rfl, ?_⟩; replace BK299 := mk_ (blk_below (kk_ BK299) hb); replace HB := mk_ (below_step (bs_ HB GE299.out) hb); (try clear hb)) | ((with_reducible refine gate_dst (N := 7) rfl ?_); refine box_event ?hg (N := 7) ?hd (cs := #[.int .i64 0, .int .i64 0]) (t := 24) ?hr ?_; (case hd => rfl); (case hg => rfl); (case hr => first | (go_simp; done) | (go_simp; rfl)); intro gb303 hg w15 hbox hb; have BK303 := mk_ (hbox); have GW303 := mk_ (bz_ hg (bs_ HB GE299.out)); have GE303 := mk_ (bz_ hg (bs_ HB GE299.out)); replace HB := mk_ (below_step (bs_ HB GE299.out) hb); have NB299_303 := mk_ (bl_ hg (kk_ BK299)); have NB303_299 := mk_ (bg_ hg (kk_ BK299)); replace BK299 := mk_ (blk_below (kk_ BK299) hb); clear hb hbox hg; have hnb16 := NB303_299.out; have hnc16 := NB299_303.out; have hcz17_0 := bc0_ BK303.out; have hcz17_1 := bc1_ BK303.out; have hfz17_0 := blk_frozen BK303.out 0; have hfz17_1 := blk_frozen BK303.out 1) | ((with_reducible refine gate_callee (f := 30) rfl ?_); refine gl_ (some 26) Try.func30 #[.agg #[.int .i64 t301, .int .i64 t302]] ?_; (with_reducible refine (cohousingref01_Valid.calls kj3 t301 t302 true _ A12.out).mono ?_); rintro e w18 ⟨rfl, hb⟩; refine ⟨_, rfl, ?_⟩; replace BK299 := mk_ (blk_below (g := gb299) (o := .cells #[.int .i64 0, .int .i64 0] 24 (0, 0)) (by (with_reducible repeat (first | refine blk_drewN ?_ _ | refine blk_drew ?_ | refine blk_alloc ?_ _)); refine blk_far ?_ NB299_303.out _; (with_reducible repeat (first | refine blk_drewN ?_ _ | refine blk_drew ?_ | refine blk_alloc ?_ _)); refine blk_far ?_ NB299_303.out _; (with_reducible repeat (first | refine blk_drewN ?_ _ | refine blk_drew ?_ | refine blk_alloc ?_ _)); exact BK299.out) hb); replace BK303 := mk_ (blk_below (g := gb303) (o := .cells #[.int .i64 t301, .int .i64 t302] 24 (0, 0)) (by (with_reducible repeat (first | refine blk_drewN ?_ _ | refine blk_drew ?_ | refine blk_alloc ?_ _)); refine blk_put (cs := #[.int .i64 t301, .int .i64 0]) ?_ 1 _ rfl; (with_reducible repeat (first | refine blk_drewN ?_ _ | refine blk_drew ?_ | refine blk_alloc ?_ _)); refine blk_put (cs := #[.int .i64 0, .int .i64 0]) ?_ 0 _ rfl; (with_reducible repeat (first | refine blk_drewN ?_ _ | refine blk_drew ?_ | refine blk_alloc ?_ _)); exact BK303.out) hb); replace HB := mk_ (below_step (bs2_ HB GE299 GE303) hb); (try clear hb); have hcz19_0 := bc0_ BK303.out; have hcz19_1 := bc1_ BK303.out; have hfz19_0 := blk_frozen BK303.out 0; have hfz19_1 := blk_frozen BK303.out 1; have hcz20_0 := bc0_ BK299.out; have hcz20_1 := bc1_ BK299.out; have hfz20_0 := blk_frozen BK299.out 0; have hfz20_1 := blk_frozen BK299.out 1))
    refine bodyPost_ret (results_ct rfl _ _ gb299 24 #[.int .i64 t301, .int .i64 t302] (0, 0) _ rfl (by (with_reducible repeat (first | refine blk_drewN ?_ _ | refine blk_drew ?_ | refine blk_alloc ?_ _)); refine blk_put (cs := #[.int .i64 t301, .int .i64 0]) ?_ 1 _ rfl; (with_reducible repeat (first | refine blk_drewN ?_ _ | refine blk_drew ?_ | refine blk_alloc ?_ _)); refine blk_put (cs := #[.int .i64 0, .int .i64 0]) ?_ 0 _ rfl; (with_reducible repeat (first | refine blk_drewN ?_ _ | refine blk_drew ?_ | refine blk_alloc ?_ _)); exact BK299.out) Try.underlying24 rfl (by kernel_rfl)) rfl ?_
    exact ⟨ew_, bs2_ HB GE299 GE303⟩
   replace c13 := Bool.eq_false_iff.mpr c13
   subst c13
   have H1 : (some (0, 0, 3)) = some (r1, r2, r3) := by rw [if_neg (show ¬ (false = true) by decide)] at H; exact H
   clear H
   have H := H1
   clear H1
   simp only [Option.some.injEq, Prod.mk.injEq] at H
   obtain ⟨rfl, rfl, rfl⟩ := H
   go_wp2_with (first | ((with_reducible refine gate_callee (f := 27) rfl ?_); refine gl_ (some 24) Try.func27 #[.slice A0 l0.length c0, .int .i64 a1] ?_; (with_reducible refine (cohousingref05_Value.calls kj3 _ _ l0 a1 t301 t302 _ ?side1 ?side2 A11.out).mono ?_); (case side1 => exact cc_ ((Kd.C_below HR0.out HB.out))); (case side2 => exact HC0.out); rintro e w21 ⟨rfl, hb⟩; refine ⟨_, rfl, ?_⟩; replace BK299 := mk_ (blk_below (kk_ BK299) hb); replace HB := mk_ (below_step (bs_ HB GE299.out) hb); (try clear hb)) | ((with_reducible refine gate_dst (N := 7) rfl ?_); refine box_event ?hg (N := 7) ?hd (cs := #[.int .i64 0, .int .i64 0]) (t := 24) ?hr ?_; (case hd => rfl); (case hg => rfl); (case hr => first | (go_simp; done) | (go_simp; rfl)); intro gb303 hg w22 hbox hb; have BK303 := mk_ (hbox); have GW303 := mk_ (bz_ hg (bs_ HB GE299.out)); have GE303 := mk_ (bz_ hg (bs_ HB GE299.out)); replace HB := mk_ (below_step (bs_ HB GE299.out) hb); have NB299_303 := mk_ (bl_ hg (kk_ BK299)); have NB303_299 := mk_ (bg_ hg (kk_ BK299)); replace BK299 := mk_ (blk_below (kk_ BK299) hb); clear hb hbox hg; have hnb23 := NB303_299.out; have hnc23 := NB299_303.out; have hcz24_0 := bc0_ BK303.out; have hcz24_1 := bc1_ BK303.out; have hfz24_0 := blk_frozen BK303.out 0; have hfz24_1 := blk_frozen BK303.out 1) | ((with_reducible refine gate_callee (f := 30) rfl ?_); refine gl_ (some 26) Try.func30 #[.agg #[.int .i64 t301, .int .i64 t302]] ?_; (with_reducible refine (cohousingref01_Valid.calls kj3 t301 t302 false _ A12.out).mono ?_); rintro e w25 ⟨rfl, hb⟩; refine ⟨_, rfl, ?_⟩; replace BK299 := mk_ (blk_below (g := gb299) (o := .cells #[.int .i64 0, .int .i64 0] 24 (0, 0)) (by (with_reducible repeat (first | refine blk_drewN ?_ _ | refine blk_drew ?_ | refine blk_alloc ?_ _)); refine blk_far ?_ NB299_303.out _; (with_reducible repeat (first | refine blk_drewN ?_ _ | refine blk_drew ?_ | refine blk_alloc ?_ _)); refine blk_far ?_ NB299_303.out _; (with_reducible repeat (first | refine blk_drewN ?_ _ | refine blk_drew ?_ | refine blk_alloc ?_ _)); exact BK299.out) hb); replace BK303 := mk_ (blk_below (g := gb303) (o := .cells #[.int .i64 t301, .int .i64 t302] 24 (0, 0)) (by (with_reducible repeat (first | refine blk_drewN ?_ _ | refine blk_drew ?_ | refine blk_alloc ?_ _)); refine blk_put (cs := #[.int .i64 t301, .int .i64 0]) ?_ 1 _ rfl; (with_reducible repeat (first | refine blk_drewN ?_ _ | refine blk_drew ?_ | refine blk_alloc ?_ _)); refine blk_put (cs := #[.int .i64 0, .int .i64 0]) ?_ 0 _ rfl; (with_reducible repeat (first | refine blk_drewN ?_ _ | refine blk_drew ?_ | refine blk_alloc ?_ _)); exact BK303.out) hb); replace HB := mk_ (below_step (bs2_ HB GE299 GE303) hb); (try clear hb); have hcz26_0 := bc0_ BK299.out; have hcz26_1 := bc1_ BK299.out; have hfz26_0 := blk_frozen BK299.out 0; have hfz26_1 := blk_frozen BK299.out 1))
   refine bodyPost_ret (results_ct rfl _ _ gb299 24 #[.int .i64 0, .int .i64 0] (0, 0) _ rfl (by (with_reducible repeat (first | refine blk_drewN ?_ _ | refine blk_drew ?_ | refine blk_alloc ?_ _)); refine blk_put (cs := #[.int .i64 0, .int .i64 0]) ?_ 1 _ rfl; (with_reducible repeat (first | refine blk_drewN ?_ _ | refine blk_drew ?_ | refine blk_alloc ?_ _)); refine blk_put (cs := #[.int .i64 0, .int .i64 0]) ?_ 0 _ rfl; (with_reducible repeat (first | refine blk_drewN ?_ _ | refine blk_drew ?_ | refine blk_alloc ?_ _)); exact BK299.out) Try.underlying24 rfl (by kernel_rfl)) rfl ?_
   exact ⟨ew_, bs2_ HB GE299 GE303⟩
end
section
def cohousingref05_Sum.f (k : Nat) (a0_0 : Int) (a0_1 : Int) (a1_0 : Int) (a1_1 : Int) : Option (Int × Int) := (cohousingref05_Reduce.f k (wrap64 ((wrap64 (a0_0 * a1_1)) + (wrap64 (a1_0 * a0_1)))) (wrap64 (a0_1 * a1_1))).bind fun bt308 => (some (bt308.1, bt308.2))
theorem cohousingref05_Sum.calls (k : Nat) (a0_0 : Int) (a0_1 : Int) (a1_0 : Int) (a1_1 : Int) (r1 : Int) (r2 : Int) (w : World) (h : cohousingref05_Sum.f k a0_0 a0_1 a1_0 a1_1 = some (r1, r2)) :
  Calls Try.prog 28 #[.agg #[.int .i64 a0_0, .int .i64 a0_1], .agg #[.int .i64 a1_0, .int .i64 a1_1]] w fun e w' => e = .returned (.agg #[.int .i64 r1, .int .i64 r2]) ∧ Below w.heap.size w w' := by
 have hu24 := Try.underlying24
 have HB := mk_ (Below.refl w.heap.size w)
 have H : ((cohousingref05_Reduce.f k (wrap64 ((wrap64 (a0_0 * a1_1)) + (wrap64 (a1_0 * a0_1)))) (wrap64 (a0_1 * a1_1))).bind fun bt308 => (some (bt308.1, bt308.2))) = some (r1, r2) := h
 clear h
 replace H := Option.bind_eq_some_iff.mp H
 obtain ⟨⟨t308, t309⟩, A30, H⟩ := H
 replace H : (some (t308, t309)) = some (r1, r2) := H
 have A3 := mk_ A30
 clear A30
 simp only [Option.some.injEq, Prod.mk.injEq] at H
 obtain ⟨rfl, rfl⟩ := H
 go_enter Try.func28, Try.ntmps28
 go_wp2_with (first | ((with_reducible refine gate_dst (N := 2) rfl ?_); refine box_event ?hg (N := 2) ?hd (cs := #[.int .i64 a0_0, .int .i64 a0_1]) (t := 24) ?hr ?_; (case hd => rfl); (case hg => rfl); (case hr => first | (go_simp; done) | (go_simp; rfl)); intro gb305 hg w4 hbox hb; have BK305 := mk_ (hbox); have GW305 := mk_ (bz_ hg (bb_ HB)); have GE305 := mk_ (bz_ hg (bb_ HB)); replace HB := mk_ (below_step (bb_ HB) hb); clear hb hbox hg) | ((with_reducible refine gate_dst (N := 3) rfl ?_); refine box_event ?hg (N := 3) ?hd (cs := #[.int .i64 a1_0, .int .i64 a1_1]) (t := 24) ?hr ?_; (case hd => rfl); (case hg => rfl); (case hr => first | (go_simp; done) | (go_simp; rfl)); intro gb306 hg w5 hbox hb; have BK306 := mk_ (hbox); have GW306 := mk_ (bz_ hg (bs_ HB GE305.out)); have GE306 := mk_ (bz_ hg (bs_ HB GE305.out)); replace HB := mk_ (below_step (bs_ HB GE305.out) hb); have NB305_306 := mk_ (bl_ hg (kk_ BK305)); have NB306_305 := mk_ (bg_ hg (kk_ BK305)); replace BK305 := mk_ (blk_below (kk_ BK305) hb); clear hb hbox hg) | ((with_reducible refine gate_dst (N := 4) rfl ?_); refine box_event ?hg (N := 4) ?hd (cs := #[.int .i64 0, .int .i64 0]) (t := 24) ?hr ?_; (case hd => rfl); (case hg => rfl); (case hr => first | (go_simp; done) | (go_simp; rfl)); intro gb307 hg w6 hbox hb; have BK307 := mk_ (hbox); have GW307 := mk_ (bz_ hg (bs2_ HB GE305 GE306)); have GE307 := mk_ (bz_ hg (bs2_ HB GE305 GE306)); replace HB := mk_ (below_step (bs2_ HB GE305 GE306) hb); have NB305_307 := mk_ (bl_ hg (kk_ BK305)); have NB307_305 := mk_ (bg_ hg (kk_ BK305)); replace BK305 := mk_ (blk_below (kk_ BK305) hb); have NB306_307 := mk_ (bl_ hg (kk_ BK306)); have NB307_306 := mk_ (bg_ hg (kk_ BK306)); replace BK306 := mk_ (blk_below (kk_ BK306) hb); clear hb hbox hg; have hnb7 := NB305_306.out; have hnc7 := NB306_305.out; have hnb8 := NB305_307.out; have hnc8 := NB307_305.out; have hcz9_0 := bc0_ BK305.out; have hcz9_1 := bc1_ BK305.out; have hfz9_0 := blk_frozen BK305.out 0; have hfz9_1 := blk_frozen BK305.out 1; have hnb10 := NB306_307.out; have hnc10 := NB307_306.out; have hcz11_0 := bc0_ BK306.out; have hcz11_1 := bc1_ BK306.out; have hfz11_0 := blk_frozen BK306.out 0; have hfz11_1 := blk_frozen BK306.out 1) | ((with_reducible refine gate_callee (f := 32) rfl ?_); refine gl_ (some 21) Try.func32 #[.int .i64 (wrap64 ((wrap64 (a0_0 * a1_1)) + (wrap64 (a1_0 * a0_1)))), .int .i64 (wrap64 (a0_1 * a1_1))] ?_; (with_reducible refine (cohousingref05_Reduce.calls k (wrap64 ((wrap64 (a0_0 * a1_1)) + (wrap64 (a1_0 * a0_1)))) (wrap64 (a0_1 * a1_1)) t308 t309 _ A3.out).mono ?_); rintro e w12 ⟨rfl, hb⟩; refine ⟨_, rfl, ?_⟩; replace BK305 := mk_ (blk_below (kk_ BK305) hb); replace BK306 := mk_ (blk_below (kk_ BK306) hb); replace BK307 := mk_ (blk_below (kk_ BK307) hb); replace HB := mk_ (below_step (bs3_ HB GE305 GE306 GE307) hb); (try clear hb); have hcz13_0 := bc0_ BK307.out; have hcz13_1 := bc1_ BK307.out; have hfz13_0 := blk_frozen BK307.out 0; have hfz13_1 := blk_frozen BK307.out 1))
 refine bodyPost_ret (results_cell_row rfl _ _ gb307 24 #[.int .i64 t308, .int .i64 t309] (0, 0) _ rfl (by (with_reducible repeat (first | refine blk_drewN ?_ _ | refine blk_drew ?_ | refine blk_alloc ?_ _)); refine blk_put (cs := #[.int .i64 t308, .int .i64 0]) ?_ 1 _ rfl; (with_reducible repeat (first | refine blk_drewN ?_ _ | refine blk_drew ?_ | refine blk_alloc ?_ _)); refine blk_put (cs := #[.int .i64 0, .int .i64 0]) ?_ 0 _ rfl; (with_reducible repeat (first | refine blk_drewN ?_ _ | refine blk_drew ?_ | refine blk_alloc ?_ _)); exact BK307.out) Try.underlying24 rfl (by kernel_rfl)) rfl ?_
 exact ⟨ew_, bs3_ HB GE305 GE306 GE307⟩
end
section
mutual
def cohousingref05_Starts.l0 : Nat → List (S51) → List (S51) → List Int → Int → Int → Option (List Int)
 | 0, _, _, _, _, _ => none
 | k + 1, x0, x1, x5, x6, x7 => if x6 < (x0.length : Int) then (cohousingref05_Starts.j1 k x0 x1 x5 x6 x7 true) else (cohousingref05_Starts.j1 k x0 x1 x5 x6 x7 (decide (x7 < (x1.length : Int))))
def cohousingref05_Starts.j1 : Nat → List (S51) → List (S51) → List Int → Int → Int → Bool → Option (List Int)
 | 0, _, _, _, _, _, _ => none
 | k + 1, x0, x1, x5, x6, x7, x18 => if x18 = true then (if x6 < (x0.length : Int) then (if 0 ≤ x6 then (cohousingref05_Starts.j2 k x0 x1 x5 x6 x7 ((rd_T51 x0 x6).f0)) else (none)) else (cohousingref05_Starts.j2 k x0 x1 x5 x6 x7 100001)) else (some x5)
def cohousingref05_Starts.j2 : Nat → List (S51) → List (S51) → List Int → Int → Int → Int → Option (List Int)
 | 0, _, _, _, _, _, _ => none
 | k + 1, x0, x1, x5, x6, x7, x8 => if x7 < (x1.length : Int) then (if 0 ≤ x7 then (cohousingref05_Starts.j3 k x0 x1 x5 x6 x7 x8 (decide (((rd_T51 x1 x7).f0) < x8))) else (none)) else (cohousingref05_Starts.j3 k x0 x1 x5 x6 x7 x8 false)
def cohousingref05_Starts.j3 : Nat → List (S51) → List (S51) → List Int → Int → Int → Int → Bool → Option (List Int)
 | 0, _, _, _, _, _, _, _ => none
 | k + 1, x0, x1, x5, x6, x7, x8, x40 => if x40 = true then (if 0 ≤ x7 then (if x7 < (x1.length : Int) then (cohousingref05_Starts.j4 k x0 x1 x5 x6 x7 ((rd_T51 x1 x7).f0)) else (none)) else (none)) else (cohousingref05_Starts.j4 k x0 x1 x5 x6 x7 x8)
def cohousingref05_Starts.j4 : Nat → List (S51) → List (S51) → List Int → Int → Int → Int → Option (List Int)
 | 0, _, _, _, _, _, _ => none
 | k + 1, x0, x1, x5, x6, x7, x8 => cohousingref05_Starts.l1 k x0 x1 x5 x6 x7 x8
def cohousingref05_Starts.j6 : Nat → List (S51) → List (S51) → List Int → Int → Int → Int → Option (List Int)
 | 0, _, _, _, _, _, _ => none
 | k + 1, x0, x1, x5, x6, x7, x8 => cohousingref05_Starts.l2 k x0 x1 x5 x6 x7 x8
def cohousingref05_Starts.l2 : Nat → List (S51) → List (S51) → List Int → Int → Int → Int → Option (List Int)
 | 0, _, _, _, _, _, _ => none
 | k + 1, x0, x1, x5, x6, x7, x8 => if x7 < (x1.length : Int) then (if 0 ≤ x7 then (if ((rd_T51 x1 x7).f0) = x8 then (cohousingref05_Starts.l2 k x0 x1 x5 x6 (wrap64 (x7 + 1)) x8) else (if x5.length < 17592186044416 then (cohousingref05_Starts.l0 k x0 x1 (x5 ++ [x8]) x6 x7) else (none))) else (none)) else (if x5.length < 17592186044416 then (cohousingref05_Starts.l0 k x0 x1 (x5 ++ [x8]) x6 x7) else (none))
def cohousingref05_Starts.l1 : Nat → List (S51) → List (S51) → List Int → Int → Int → Int → Option (List Int)
 | 0, _, _, _, _, _, _ => none
 | k + 1, x0, x1, x5, x6, x7, x8 => if x6 < (x0.length : Int) then (if 0 ≤ x6 then (if ((rd_T51 x0 x6).f0) = x8 then (cohousingref05_Starts.l1 k x0 x1 x5 (wrap64 (x6 + 1)) x7 x8) else (cohousingref05_Starts.j6 k x0 x1 x5 x6 x7 x8)) else (none)) else (cohousingref05_Starts.j6 k x0 x1 x5 x6 x7 x8)
end
def cohousingref05_Starts.f (k : Nat) (l0 : List (S51)) (l1 : List (S51)) : Option (List Int) := cohousingref05_Starts.l0 k l0 l1 ([] : List Int) 0 0
theorem cohousingref05_Starts.calls (k : Nat) (A0 : Option Addr) (c0 : Nat) (l0 : List (S51)) (A1 : Option Addr) (c1 : Nat) (l1 : List (S51)) (r : List Int) (w : World) (hr0 : Kd.C k51 w A0 l0.length l0) (hc0 : l0.length ≤ c0) (hr1 : Kd.C k51 w A1 l1.length l1) (hc1 : l1.length ≤ c1) (h : cohousingref05_Starts.f k l0 l1 = some r) :
  Calls Try.prog 42 #[.slice A0 l0.length c0, .slice A1 l1.length c1] w fun e w' => ∃ v0_ : Value, e = .returned (v0_) ∧ Kd.R (Kd.int .i64) 3 w' w.heap.size (fun _ => True) v0_ r ∧ Below w.heap.size w w' := by
 have HR0 := mk_ hr0
 have HC0 := mk_ hc0
 clear hr0 hc0
 have HR1 := mk_ hr1
 have HC1 := mk_ hc1
 clear hr1 hc1
 have HB := mk_ (Below.refl w.heap.size w)
 have H : (cohousingref05_Starts.l0 k l0 l1 ([] : List Int) 0 0) = some r := h
 clear h
 have H' := mk_ H
 clear H
 go_enter Try.func42, Try.ntmps42
 go_wp2
 go_loopg [5, 6, 7] k (fun kq v5 v6 v7 w' => ∃ (x5_1 : List Int) (x6_1 : Int) (x7_1 : Int), v6 = .int .i64 x6_1 ∧ v7 = .int .i64 x7_1 ∧ Aside0 (cohousingref05_Starts.l0 kq l0 l1 x5_1 x6_1 x7_1 = some r) ∧ Aside0 (kq ≤ k) ∧ Aside0 (Kd.R (Kd.int .i64) 3 w' w.heap.size (fun _ => True) v5 x5_1) ∧ Aside0 (Below w.heap.size w w'))
 case atStart => exact ⟨(([] : List Int)), (0), (0), sd_, sd_, H', ⟨Nat.le_refl _⟩, ⟨by first | exact Kd.R_nil _ _ _ _ _ | exact Kd.N_nil _ _ _ _ _ | exact Kd.V_nil _ _ _ _ _ | exact Kd.Q_nil _ _ _ _ _ | exact Kd.S_nil _ _ _ _ _⟩, ⟨bb_ HB⟩⟩
 case round =>
  clear H'
  obtain ⟨x5_1, x6_1, x7_1, rfl, rfl, HA, HK1, HO_5, HB⟩ := hrel
  cases gk with
  | zero => exact absurd HA.out (by simp [cohousingref05_Starts.l0])
  | succ k1 =>
   have H := HA.out
   clear HA
   simp only [cohousingref05_Starts.l0] at H
   have HC3 := mk_ H
   clear H
   go_upto_region 4 with (fail)
   go_cut [18] (fun v18 wc => ∃ (kq : Nat) (x18_2 : Bool), v18 = .bool x18_2 ∧ Aside0 (cohousingref05_Starts.j1 kq l0 l1 x5_1 x6_1 x7_1 x18_2 = some r) ∧ Aside0 (kq ≤ k1) ∧ Aside0 (Kd.R (Kd.int .i64) 3 wc w.heap.size (fun _ => True) u5 x5_1) ∧ Aside0 (Below w.heap.size w wc))
   case first =>
    have H := HC3.out
    clear HC3
    by_cases c4 : x6_1 < (l0.length : Int)
    rotate_left
    ·rw [if_neg c4] at H
     have c4b0 : decide (x6_1 < (l0.length : Int)) = false := decide_eq_false c4
     clear c4
     (first | rw [c4b0] | (simp only [i64_w, i32_w]; rw [c4b0]) | skip)
     have H' := mk_ H
     clear H
     go_wp2
     go_meet
     case rel => exact ⟨_, (decide (x7_1 < (l1.length : Int))), sd_, H', ⟨by have := HK1.out; first | omega | exact Nat.le_refl _⟩, ⟨rr_ HO_5⟩, ⟨bb_ HB⟩⟩
    rw [if_pos c4] at H
    have c4b0 : decide (x6_1 < (l0.length : Int)) = true := decide_eq_true c4
    clear c4
    (first | rw [c4b0] | (simp only [i64_w, i32_w]; rw [c4b0]) | skip)
    have H' := mk_ H
    clear H
    go_wp2
    go_meet
    case rel => exact ⟨_, (true), sd_, H', ⟨by have := HK1.out; first | omega | exact Nat.le_refl _⟩, ⟨rr_ HO_5⟩, ⟨bb_ HB⟩⟩
   case rest =>
    clear HC3
    obtain ⟨kq, x18_2, rfl, HA, HJ2, HO_5, HB⟩ := hcut
    cases kq with
    | zero => exact absurd HA.out (by simp [cohousingref05_Starts.j1])
    | succ kj2 =>
     have H := HA.out
     clear HA
     simp only [cohousingref05_Starts.j1] at H
     by_cases c5 : x18_2 = true
     rotate_left
     ·replace c5 := Bool.eq_false_iff.mpr c5
      subst c5
      have H1 : (some x5_1) = some r := by rw [if_neg (show ¬ (false = true) by decide)] at H; exact H
      clear H
      have H := H1
      clear H1
      obtain rfl := Option.some.inj H
      go_wp2
      go_ret
      exact ⟨_, ew_, rr_ HO_5, bb_ HB⟩
     subst c5
     have H1 : (if x6_1 < (l0.length : Int) then (if 0 ≤ x6_1 then (cohousingref05_Starts.j2 kj2 l0 l1 x5_1 x6_1 x7_1 ((rd_T51 l0 x6_1).f0)) else (none)) else (cohousingref05_Starts.j2 kj2 l0 l1 x5_1 x6_1 x7_1 100001)) = some r := by rw [if_pos rfl] at H; exact H
     clear H
     have H := H1
     clear H1
     have HC6 := mk_ H
     clear H
     go_upto_if 22 with (fail)
     go_cut [8] (fun v8 wc => ∃ (kq : Nat) (x8_5 : Int), v8 = .int .i64 x8_5 ∧ Aside0 (cohousingref05_Starts.j2 kq l0 l1 x5_1 x6_1 x7_1 x8_5 = some r) ∧ Aside0 (kq ≤ kj2) ∧ Aside0 (Kd.R (Kd.int .i64) 3 wc w.heap.size (fun _ => True) u5 x5_1) ∧ Aside0 (Below w.heap.size w wc))
     case first =>
      have H := HC6.out
      clear HC6
      by_cases c7 : x6_1 < (l0.length : Int)
      rotate_left
      ·rw [if_neg c7] at H
       have c7b0 : decide (x6_1 < (l0.length : Int)) = false := decide_eq_false c7
       clear c7
       (first | rw [c7b0] | (simp only [i64_w, i32_w]; rw [c7b0]) | skip)
       have H' := mk_ H
       clear H
       go_wp2
       go_meet
       case rel => exact ⟨_, (100001), sd_, H', ⟨by have := HK1.out; have := HJ2.out; first | omega | exact Nat.le_refl _⟩, ⟨rr_ HO_5⟩, ⟨bb_ HB⟩⟩
      rw [if_pos c7] at H
      have c7b0 : decide (x6_1 < (l0.length : Int)) = true := decide_eq_true c7
      clear c7
      (first | rw [c7b0] | (simp only [i64_w, i32_w]; rw [c7b0]) | skip)
      by_cases c8 : 0 ≤ x6_1
      rotate_left
      ·rw [if_neg c8] at H
       exact absurd H (by simp)
      rw [if_pos c8] at H
      have c8b0 : decide (0 ≤ x6_1) = true := decide_eq_true c8
      clear c8
      have H' := mk_ H
      clear H
      have p310 : 0 ≤ (x6_1 : Int) := od_
      have q310 : x6_1 < (l0.length : Int) := od_
      obtain ⟨ad310, e310, hx310_0, hx310_1, hx310_2, hx310_3, hx310_4⟩ := at_T51 HR0.out x6_1 p310 q310
      cases e310
      replace hx310_0 := cb_ HB hx310_0
      replace hx310_1 := cb_ HB hx310_1
      replace hx310_2 := cb_ HB hx310_2
      replace hx310_3 := cb_ HB hx310_3
      replace hx310_4 := cb_ HB hx310_4
      replace p310 := eq_true p310
      replace q310 := eq_true q310
      go_wp2
      go_meet
      case rel => exact ⟨_, ((rd_T51 l0 x6_1).f0), sd_, H', ⟨by have := HK1.out; have := HJ2.out; first | omega | exact Nat.le_refl _⟩, ⟨rr_ HO_5⟩, ⟨bb_ HB⟩⟩
     case rest =>
      clear HC6
      obtain ⟨kq, x8_5, rfl, HA, HJ5, HO_5, HB⟩ := hcut
      cases kq with
      | zero => exact absurd HA.out (by simp [cohousingref05_Starts.j2])
      | succ kj5 =>
       have H := HA.out
       clear HA
       simp only [cohousingref05_Starts.j2] at H
       have HC9 := mk_ H
       clear H
       go_upto_region 8 with (fail)
       go_cut [40] (fun v40 wc => ∃ (kq : Nat) (x40_8 : Bool), v40 = .bool x40_8 ∧ Aside0 (cohousingref05_Starts.j3 kq l0 l1 x5_1 x6_1 x7_1 x8_5 x40_8 = some r) ∧ Aside0 (kq ≤ kj5) ∧ Aside0 (Kd.R (Kd.int .i64) 3 wc w.heap.size (fun _ => True) u5 x5_1) ∧ Aside0 (Below w.heap.size w wc))
       case first =>
        have H := HC9.out
        clear HC9
        by_cases c10 : x7_1 < (l1.length : Int)
        rotate_left
        ·rw [if_neg c10] at H
         have c10b0 : decide (x7_1 < (l1.length : Int)) = false := decide_eq_false c10
         clear c10
         (first | rw [c10b0] | (simp only [i64_w, i32_w]; rw [c10b0]) | skip)
         have H' := mk_ H
         clear H
         go_wp2
         go_meet
         case rel => exact ⟨_, (false), sd_, H', ⟨by have := HK1.out; have := HJ2.out; have := HJ5.out; first | omega | exact Nat.le_refl _⟩, ⟨rr_ HO_5⟩, ⟨bb_ HB⟩⟩
        rw [if_pos c10] at H
        have c10b0 : decide (x7_1 < (l1.length : Int)) = true := decide_eq_true c10
        clear c10
        (first | rw [c10b0] | (simp only [i64_w, i32_w]; rw [c10b0]) | skip)
        by_cases c11 : 0 ≤ x7_1
        rotate_left
        ·rw [if_neg c11] at H
         exact absurd H (by simp)
        rw [if_pos c11] at H
        have c11b0 : decide (0 ≤ x7_1) = true := decide_eq_true c11
        clear c11
        have H' := mk_ H
        clear H
        have p311 : 0 ≤ (x7_1 : Int) := od_
        have q311 : x7_1 < (l1.length : Int) := od_
        obtain ⟨ad311, e311, hx311_0, hx311_1, hx311_2, hx311_3, hx311_4⟩ := at_T51 HR1.out x7_1 p311 q311
        cases e311
        replace hx311_0 := cb_ HB hx311_0
        replace hx311_1 := cb_ HB hx311_1
        replace hx311_2 := cb_ HB hx311_2
        replace hx311_3 := cb_ HB hx311_3
        replace hx311_4 := cb_ HB hx311_4
        replace p311 := eq_true p311
        replace q311 := eq_true q311
        go_wp2
        go_meet
        case rel => exact ⟨_, (decide (((rd_T51 l1 x7_1).f0) < x8_5)), sd_, H', ⟨by have := HK1.out; have := HJ2.out; have := HJ5.out; first | omega | exact Nat.le_refl _⟩, ⟨rr_ HO_5⟩, ⟨bb_ HB⟩⟩
       case rest =>
        clear HC9
        obtain ⟨kq, x40_8, rfl, HA, HJ8, HO_5, HB⟩ := hcut
        cases kq with
        | zero => exact absurd HA.out (by simp [cohousingref05_Starts.j3])
        | succ kj8 =>
         have H := HA.out
         clear HA
         simp only [cohousingref05_Starts.j3] at H
         have HC12 := mk_ H
         clear H
         go_upto_if 40 with (fail)
         go_cut [8] (fun v8 wc => ∃ (kq : Nat) (x8_11 : Int), v8 = .int .i64 x8_11 ∧ Aside0 (cohousingref05_Starts.j4 kq l0 l1 x5_1 x6_1 x7_1 x8_11 = some r) ∧ Aside0 (kq ≤ kj8) ∧ Aside0 (Kd.R (Kd.int .i64) 3 wc w.heap.size (fun _ => True) u5 x5_1) ∧ Aside0 (Below w.heap.size w wc))
         case first =>
          have H := HC12.out
          clear HC12
          by_cases c13 : x40_8 = true
          rotate_left
          ·replace c13 := Bool.eq_false_iff.mpr c13
           subst c13
           have H1 : (cohousingref05_Starts.j4 kj8 l0 l1 x5_1 x6_1 x7_1 x8_5) = some r := by rw [if_neg (show ¬ (false = true) by decide)] at H; exact H
           clear H
           have H := H1
           clear H1
           have H' := mk_ H
           clear H
           go_wp2
           go_meet
           case rel => exact ⟨_, (x8_5), sd_, H', ⟨by have := HK1.out; have := HJ2.out; have := HJ5.out; have := HJ8.out; first | omega | exact Nat.le_refl _⟩, ⟨rr_ HO_5⟩, ⟨bb_ HB⟩⟩
          subst c13
          have H1 : (if 0 ≤ x7_1 then (if x7_1 < (l1.length : Int) then (cohousingref05_Starts.j4 kj8 l0 l1 x5_1 x6_1 x7_1 ((rd_T51 l1 x7_1).f0)) else (none)) else (none)) = some r := by rw [if_pos rfl] at H; exact H
          clear H
          have H := H1
          clear H1
          by_cases c14 : 0 ≤ x7_1
          rotate_left
          ·rw [if_neg c14] at H
           exact absurd H (by simp)
          rw [if_pos c14] at H
          have c14b0 : decide (0 ≤ x7_1) = true := decide_eq_true c14
          clear c14
          (first | rw [c14b0] | (simp only [i64_w, i32_w]; rw [c14b0]) | skip)
          by_cases c15 : x7_1 < (l1.length : Int)
          rotate_left
          ·rw [if_neg c15] at H
           exact absurd H (by simp)
          rw [if_pos c15] at H
          have c15b0 : decide (x7_1 < (l1.length : Int)) = true := decide_eq_true c15
          clear c15
          have H' := mk_ H
          clear H
          have p312 : 0 ≤ (x7_1 : Int) := od_
          have q312 : x7_1 < (l1.length : Int) := od_
          obtain ⟨ad312, e312, hx312_0, hx312_1, hx312_2, hx312_3, hx312_4⟩ := at_T51 HR1.out x7_1 p312 q312
          cases e312
          replace hx312_0 := cb_ HB hx312_0
          replace hx312_1 := cb_ HB hx312_1
          replace hx312_2 := cb_ HB hx312_2
          replace hx312_3 := cb_ HB hx312_3
          replace hx312_4 := cb_ HB hx312_4
          replace p312 := eq_true p312
          replace q312 := eq_true q312
          go_wp2
          go_meet
          case rel => exact ⟨_, ((rd_T51 l1 x7_1).f0), sd_, H', ⟨by have := HK1.out; have := HJ2.out; have := HJ5.out; have := HJ8.out; first | omega | exact Nat.le_refl _⟩, ⟨rr_ HO_5⟩, ⟨bb_ HB⟩⟩
         case rest =>
          clear HC12
          obtain ⟨kq, x8_11, rfl, HA, HJ11, HO_5, HB⟩ := hcut
          cases kq with
          | zero => exact absurd HA.out (by simp [cohousingref05_Starts.j4])
          | succ kj11 =>
           have H := HA.out
           clear HA
           simp only [cohousingref05_Starts.j4] at H
           have HC16 := mk_ H
           clear H
           go_upto_block 2 with (fail)
           go_cut [6] (fun v6 wc => ∃ (kq : Nat) (x6_15 : Int), v6 = .int .i64 x6_15 ∧ Aside0 (cohousingref05_Starts.j6 kq l0 l1 x5_1 x6_15 x7_1 x8_11 = some r) ∧ Aside0 (kq ≤ kj11) ∧ Aside0 (Kd.R (Kd.int .i64) 3 wc w.heap.size (fun _ => True) u5 x5_1) ∧ Aside0 (Below w.heap.size w wc))
           case first =>
            have H := HC16.out
            clear HC16
            have H' := mk_ H
            clear H
            go_wp2
            go_loopg [6] kj11 (fun kq v6 w' => ∃ (x6_6 : Int), v6 = .int .i64 x6_6 ∧ Aside0 (cohousingref05_Starts.l1 kq l0 l1 x5_1 x6_6 x7_1 x8_11 = some r) ∧ Aside0 (kq ≤ kj11) ∧ Aside0 (Kd.R (Kd.int .i64) 3 w' w.heap.size (fun _ => True) u5 x5_1) ∧ Aside0 (Below w.heap.size w w'))
            case atStart => exact ⟨(x6_1), sd_, H', ⟨Nat.le_refl _⟩, ⟨rr_ HO_5⟩, ⟨bb_ HB⟩⟩
            case round =>
             clear H'
             obtain ⟨x6_6, rfl, HA, HK6, HO_5, HB⟩ := hrel
             cases gk with
             | zero => exact absurd HA.out (by simp [cohousingref05_Starts.l1])
             | succ k6 =>
              have H := HA.out
              clear HA
              simp only [cohousingref05_Starts.l1] at H
              by_cases c17 : x6_6 < (l0.length : Int)
              rotate_left
              ·rw [if_neg c17] at H
               have c17b0 : decide (x6_6 < (l0.length : Int)) = false := decide_eq_false c17
               clear c17
               (first | rw [c17b0] | (simp only [i64_w, i32_w]; rw [c17b0]) | skip)
               have H' := mk_ H
               clear H
               go_wp2
               go_meet
               case rel => exact ⟨_, (x6_6), sd_, H', ⟨by have := HK1.out; have := HJ2.out; have := HJ5.out; have := HJ8.out; have := HJ11.out; have := HK6.out; first | omega | exact Nat.le_refl _⟩, ⟨rr_ HO_5⟩, ⟨bb_ HB⟩⟩
              rw [if_pos c17] at H
              have c17b0 : decide (x6_6 < (l0.length : Int)) = true := decide_eq_true c17
              clear c17
              (first | rw [c17b0] | (simp only [i64_w, i32_w]; rw [c17b0]) | skip)
              by_cases c18 : 0 ≤ x6_6
              rotate_left
              ·rw [if_neg c18] at H
               exact absurd H (by simp)
              rw [if_pos c18] at H
              have c18b0 : decide (0 ≤ x6_6) = true := decide_eq_true c18
              clear c18
              by_cases c19 : ((rd_T51 l0 x6_6).f0) = x8_11
              rotate_left
              ·rw [if_neg c19] at H
               have c19b0 : (((rd_T51 l0 x6_6).f0) == x8_11) = false := beq_eq_false_iff_ne.mpr c19
               have c19b1 : (((rd_T51 l0 x6_6).f0) != x8_11) = true := bne_iff_ne.mpr c19
               have H' := mk_ H
               clear H
               have p313 : 0 ≤ (x6_6 : Int) := od_
               have q313 : x6_6 < (l0.length : Int) := od_
               obtain ⟨ad313, e313, hx313_0, hx313_1, hx313_2, hx313_3, hx313_4⟩ := at_T51 HR0.out x6_6 p313 q313
               cases e313
               replace hx313_0 := cb_ HB hx313_0
               replace hx313_1 := cb_ HB hx313_1
               replace hx313_2 := cb_ HB hx313_2
               replace hx313_3 := cb_ HB hx313_3
               replace hx313_4 := cb_ HB hx313_4
               replace p313 := eq_true p313
               replace q313 := eq_true q313
               go_wp2
               go_meet
               case rel => exact ⟨_, (x6_6), sd_, H', ⟨by have := HK1.out; have := HJ2.out; have := HJ5.out; have := HJ8.out; have := HJ11.out; have := HK6.out; first | omega | exact Nat.le_refl _⟩, ⟨rr_ HO_5⟩, ⟨bb_ HB⟩⟩
              rw [if_pos c19] at H
              have c19b0 : (((rd_T51 l0 x6_6).f0) == x8_11) = true := beq_iff_eq.mpr c19
              have c19b1 : (((rd_T51 l0 x6_6).f0) != x8_11) = false := bne_eq_false_iff_eq.mpr c19
              clear c19
              have H' := mk_ H
              clear H
              have p313 : 0 ≤ (x6_6 : Int) := od_
              have q313 : x6_6 < (l0.length : Int) := od_
              obtain ⟨ad313, e313, hx313_0, hx313_1, hx313_2, hx313_3, hx313_4⟩ := at_T51 HR0.out x6_6 p313 q313
              cases e313
              replace hx313_0 := cb_ HB hx313_0
              replace hx313_1 := cb_ HB hx313_1
              replace hx313_2 := cb_ HB hx313_2
              replace hx313_3 := cb_ HB hx313_3
              replace hx313_4 := cb_ HB hx313_4
              replace p313 := eq_true p313
              replace q313 := eq_true q313
              go_wp2
              go_roundg k6
              case measure => have := HK1.out; have := HJ2.out; have := HJ5.out; have := HJ8.out; have := HJ11.out; have := HK6.out; omega
              case rel => exact ⟨(wrap64 (x6_6 + 1)), sd_, H', ⟨by have := HK1.out; have := HJ2.out; have := HJ5.out; have := HJ8.out; have := HJ11.out; have := HK6.out; omega⟩, ⟨rr_ HO_5⟩, ⟨bb_ HB⟩⟩
           case rest =>
            clear HC16
            obtain ⟨kq, x6_15, rfl, HA, HJ15, HO_5, HB⟩ := hcut
            cases kq with
            | zero => exact absurd HA.out (by simp [cohousingref05_Starts.j6])
            | succ kj15 =>
             have H := HA.out
             clear HA
             simp only [cohousingref05_Starts.j6] at H
             have H' := mk_ H
             clear H
             go_wp2
             go_loopg [7] kj15 (fun kq v7 w' => ∃ (x7_7 : Int), v7 = .int .i64 x7_7 ∧ Aside0 (cohousingref05_Starts.l2 kq l0 l1 x5_1 x6_15 x7_7 x8_11 = some r) ∧ Aside0 (kq ≤ kj15) ∧ Aside0 (Kd.R (Kd.int .i64) 3 w' w.heap.size (fun _ => True) u5 x5_1) ∧ Aside0 (Below w.heap.size w w'))
             case atStart => exact ⟨(x7_1), sd_, H', ⟨Nat.le_refl _⟩, ⟨rr_ HO_5⟩, ⟨bb_ HB⟩⟩
             case round =>
              clear H'
              obtain ⟨x7_7, rfl, HA, HK7, HO_5, HB⟩ := hrel
              cases gk with
              | zero => exact absurd HA.out (by simp [cohousingref05_Starts.l2])
              | succ k7 =>
               have H := HA.out
               clear HA
               simp only [cohousingref05_Starts.l2] at H
               by_cases c20 : x7_7 < (l1.length : Int)
               rotate_left
               ·rw [if_neg c20] at H
                have c20b0 : decide (x7_7 < (l1.length : Int)) = false := decide_eq_false c20
                clear c20
                by_cases c25 : x5_1.length < 17592186044416
                rotate_left
                ·rw [if_neg c25] at H
                 exact absurd H (by simp)
                rw [if_pos c25] at H
                have LMc25 := mk_ c25
                clear c25
                obtain ⟨y318, hy318⟩ : ∃ y_ : List Int, y_ = (x5_1 ++ [x8_11]) := ⟨_, rfl⟩
                replace H : (cohousingref05_Starts.l0 k7 l0 l1 y318 x6_15 x7_7) = some r := by first | (rw [hy318]; with_reducible exact H) | (have H2_ := (Option.bind_some _ _).symm.trans H; rw [hy318]; with_reducible exact H2_) | (have H2_ := (Option.bind_some _ _).symm.trans H; with_reducible exact H2_) | with_reducible exact H | (rw [hy318]; exact H) | exact H
                have Ny318 := mk_ hy318
                clear hy318
                have H' := mk_ H
                clear H
                go_wp2_with (first | ((with_reducible refine gate_builtin (b := .append) (xs := #[.tmp 76, .tmp 78]) rfl ?_); (try (refine gate_guard (by rfl) ?_; dsimp only)); at_builtin; refine Kd.R_append (Kd.int .i64) (w0 := w) w.heap.size rfl (.tmp 76) (.tmp 78) 67 3 (.int .i64 0) 8 rfl Try.underlying67 info3 rfl (by decide) (by omega) u5 x5_1 x8_11 [.int .i64 x8_11] (fun _ => True) (fun _ => False) rfl rfl ?aP (fun _ hk => hk.elim) ?aF ?aO ?aB ?aS ?aL ?_; (case aP => exact rfl); (case aB => exact (bb_ HB)); (case aF => exact (fun _ _ => trivial)); (case aO => exact (rr_ HO_5)); (case aS => exact (below_size (bb_ HB))); (case aL => have := LMc25.out; omega); intro v319 w26 ho hb hg hat; rw [← Ny318.out] at ho; have n0_ := mk_ (hb); have n1_ := mk_ (ho); clear HB HO_5; revert n0_ n1_; intro HB HO320; clear ho hb hg hat))
                go_roundg k7
                case measure => have := HK1.out; have := HJ2.out; have := HJ5.out; have := HJ8.out; have := HJ11.out; have := HJ15.out; have := HK7.out; omega
                case rel => exact ⟨(y318), (x6_15), (x7_7), sd_, sd_, H', ⟨by have := HK1.out; have := HJ2.out; have := HJ5.out; have := HJ8.out; have := HJ11.out; have := HJ15.out; have := HK7.out; omega⟩, ⟨rr_ HO320⟩, ⟨bb_ HB⟩⟩
               rw [if_pos c20] at H
               have c20b0 : decide (x7_7 < (l1.length : Int)) = true := decide_eq_true c20
               clear c20
               by_cases c21 : 0 ≤ x7_7
               rotate_left
               ·rw [if_neg c21] at H
                exact absurd H (by simp)
               rw [if_pos c21] at H
               have c21b0 : decide (0 ≤ x7_7) = true := decide_eq_true c21
               clear c21
               by_cases c22 : ((rd_T51 l1 x7_7).f0) = x8_11
               ·rw [if_pos c22] at H
                have c22b0 : (((rd_T51 l1 x7_7).f0) == x8_11) = true := beq_iff_eq.mpr c22
                have c22b1 : (((rd_T51 l1 x7_7).f0) != x8_11) = false := bne_eq_false_iff_eq.mpr c22
                clear c22
                have H' := mk_ H
                clear H
                have p314 : 0 ≤ (x7_7 : Int) := od_
                have q314 : x7_7 < (l1.length : Int) := od_
                obtain ⟨ad314, e314, hx314_0, hx314_1, hx314_2, hx314_3, hx314_4⟩ := at_T51 HR1.out x7_7 p314 q314
                cases e314
                replace hx314_0 := cb_ HB hx314_0
                replace hx314_1 := cb_ HB hx314_1
                replace hx314_2 := cb_ HB hx314_2
                replace hx314_3 := cb_ HB hx314_3
                replace hx314_4 := cb_ HB hx314_4
                replace p314 := eq_true p314
                replace q314 := eq_true q314
                go_wp2
                go_roundg k7
                case measure => have := HK1.out; have := HJ2.out; have := HJ5.out; have := HJ8.out; have := HJ11.out; have := HJ15.out; have := HK7.out; omega
                case rel => exact ⟨(wrap64 (x7_7 + 1)), sd_, H', ⟨by have := HK1.out; have := HJ2.out; have := HJ5.out; have := HJ8.out; have := HJ11.out; have := HJ15.out; have := HK7.out; omega⟩, ⟨rr_ HO_5⟩, ⟨bb_ HB⟩⟩
               rw [if_neg c22] at H
               have c22b0 : (((rd_T51 l1 x7_7).f0) == x8_11) = false := beq_eq_false_iff_ne.mpr c22
               have c22b1 : (((rd_T51 l1 x7_7).f0) != x8_11) = true := bne_iff_ne.mpr c22
               by_cases c23 : x5_1.length < 17592186044416
               rotate_left
               ·rw [if_neg c23] at H
                exact absurd H (by simp)
               rw [if_pos c23] at H
               have LMc23 := mk_ c23
               clear c23
               obtain ⟨y315, hy315⟩ : ∃ y_ : List Int, y_ = (x5_1 ++ [x8_11]) := ⟨_, rfl⟩
               replace H : (cohousingref05_Starts.l0 k7 l0 l1 y315 x6_15 x7_7) = some r := by first | (rw [hy315]; with_reducible exact H) | (have H2_ := (Option.bind_some _ _).symm.trans H; rw [hy315]; with_reducible exact H2_) | (have H2_ := (Option.bind_some _ _).symm.trans H; with_reducible exact H2_) | with_reducible exact H | (rw [hy315]; exact H) | exact H
               have Ny315 := mk_ hy315
               clear hy315
               have H' := mk_ H
               clear H
               have p314 : 0 ≤ (x7_7 : Int) := od_
               have q314 : x7_7 < (l1.length : Int) := od_
               obtain ⟨ad314, e314, hx314_0, hx314_1, hx314_2, hx314_3, hx314_4⟩ := at_T51 HR1.out x7_7 p314 q314
               cases e314
               replace hx314_0 := cb_ HB hx314_0
               replace hx314_1 := cb_ HB hx314_1
               replace hx314_2 := cb_ HB hx314_2
               replace hx314_3 := cb_ HB hx314_3
               replace hx314_4 := cb_ HB hx314_4
               replace p314 := eq_true p314
               replace q314 := eq_true q314
               go_wp2_with (first | ((with_reducible refine gate_builtin (b := .append) (xs := #[.tmp 76, .tmp 78]) rfl ?_); (try (refine gate_guard (by rfl) ?_; dsimp only)); at_builtin; refine Kd.R_append (Kd.int .i64) (w0 := w) w.heap.size rfl (.tmp 76) (.tmp 78) 67 3 (.int .i64 0) 8 rfl Try.underlying67 info3 rfl (by decide) (by omega) u5 x5_1 x8_11 [.int .i64 x8_11] (fun _ => True) (fun _ => False) rfl rfl ?aP (fun _ hk => hk.elim) ?aF ?aO ?aB ?aS ?aL ?_; (case aP => exact rfl); (case aB => exact (bb_ HB)); (case aF => exact (fun _ _ => trivial)); (case aO => exact (rr_ HO_5)); (case aS => exact (below_size (bb_ HB))); (case aL => have := LMc23.out; omega); intro v316 w24 ho hb hg hat; rw [← Ny315.out] at ho; have n0_ := mk_ (hb); have n1_ := mk_ (ho); clear HB HO_5; revert n0_ n1_; intro HB HO317; clear ho hb hg hat))
               go_roundg k7
               case measure => have := HK1.out; have := HJ2.out; have := HJ5.out; have := HJ8.out; have := HJ11.out; have := HJ15.out; have := HK7.out; omega
               case rel => exact ⟨(y315), (x6_15), (x7_7), sd_, sd_, H', ⟨by have := HK1.out; have := HJ2.out; have := HJ5.out; have := HJ8.out; have := HJ11.out; have := HJ15.out; have := HK7.out; omega⟩, ⟨rr_ HO317⟩, ⟨bb_ HB⟩⟩
end
section
attribute [local go_sem high] eqA24
def cohousingref05_continues.f (k : Nat) (a0_0 : Int) (a0_1 : Int) (a0_2 : Int) (a0_3 : Int) (a0_4 : Int) (a1_0 : Int) (a1_1 : Int) (a1_2 : Int) (a1_3 : Int) (a1_4 : Int) : Option (Bool) := if (a0_3 == a1_3 && (a0_4 == a1_4)) = true then ((cohousingref05_Line.f k a0_0 a0_1 a0_2 a0_3 a0_4 a1_0).bind fun bt323 => (some (bt323.1 == a1_1 && (bt323.2 == a1_2)))) else (some false)
def cohousingref05_continues.T1 : Bool × List (List Nat × List Nat) := (true, [([], []), ([0], [0]), ([], []), ([2], [2]), ([1, 3], [1, 3]), ([4], [4]), ([5], [5]), ([5], [5]), ([7, 5], [5, 7]), ([6, 8, 5, 5], [5, 6, 8]), ([5], [5]), ([10, 5], [5, 10]), ([9, 11, 5], [5, 9, 11]), ([5, 12], [5, 12]), ([13, 9, 0, 1, 2, 3, 4, 5, 6, 7, 8, 9, 10, 11, 12, 13], [13])])
def cohousingref05_continues.B1 : List Nat := [0, 1, 0, 4, 15, 31, 63, 63, 191, 511, 63, 1087, 4095, 8191, 16383]
theorem cohousingref05_continues.tab1 : rtab .any (opsOf Try.f48 1) = cohousingref05_continues.T1 := by kernel_rfl
theorem cohousingref05_continues.bits1 : waitsOk cohousingref05_continues.T1.2 cohousingref05_continues.B1 = true := by kernel_rfl
theorem cohousingref05_continues.calls (k : Nat) (a0_0 : Int) (a0_1 : Int) (a0_2 : Int) (a0_3 : Int) (a0_4 : Int) (a1_0 : Int) (a1_1 : Int) (a1_2 : Int) (a1_3 : Int) (a1_4 : Int) (r : Bool) (w : World) (h : cohousingref05_continues.f k a0_0 a0_1 a0_2 a0_3 a0_4 a1_0 a1_1 a1_2 a1_3 a1_4 = some r) :
  Calls Try.prog 48 #[.agg #[.int .i64 a0_0, .int .i64 a0_1, .int .i64 a0_2, .int .i64 a0_3, .int .i64 a0_4], .agg #[.int .i64 a1_0, .int .i64 a1_1, .int .i64 a1_2, .int .i64 a1_3, .int .i64 a1_4]] w fun e w' => e = .returned (.bool r) ∧ Below w.heap.size w w' := by
 have hu51 := Try.underlying51
 have hu24 := Try.underlying24
 have HB := mk_ (Below.refl w.heap.size w)
 have H : (if (a0_3 == a1_3 && (a0_4 == a1_4)) = true then ((cohousingref05_Line.f k a0_0 a0_1 a0_2 a0_3 a0_4 a1_0).bind fun bt323 => (some (bt323.1 == a1_1 && (bt323.2 == a1_2)))) else (some false)) = some r := h
 clear h
 by_cases c3 : (a0_3 == a1_3 && (a0_4 == a1_4)) = true
 case' _ =>
  rw [if_pos c3] at H
  have c3b0 : (a0_3 == a1_3 && (a0_4 == a1_4)) = true := c3
  (try (have c3b1 : decide (a0_3 = a1_3 && (a0_4 == a1_4)) = true := by simpa using c3))
  (try (have c3b2 : (a0_3 == a1_3 && (a0_4 == a1_4)) = true := by simpa using c3))
  clear c3
  replace H := Option.bind_eq_some_iff.mp H
  obtain ⟨⟨t323, t324⟩, A40, H⟩ := H
  replace H : (some (t323 == a1_1 && (t324 == a1_2))) = some r := H
  have A4 := mk_ A40
  clear A40
  obtain rfl := Option.some.inj H
  go_enter Try.func48, Try.ntmps48
 rotate_left
 case' _ =>
  rw [if_neg c3] at H
  have c3b0 : (a0_3 == a1_3 && (a0_4 == a1_4)) = false := by simpa using c3
  (try (have c3b1 : decide (a0_3 = a1_3 && (a0_4 == a1_4)) = false := by simpa using c3))
  (try (have c3b2 : (a0_3 == a1_3 && (a0_4 == a1_4)) = false := by simpa using c3))
  (try (have c3b3 : ¬ (a0_3 = a1_3 && (a0_4 == a1_4)) := by simpa using c3))
  clear c3
  obtain rfl := Option.some.inj H
  go_enter Try.func48, Try.ntmps48
 rotate_left
 all_goals try go_wp2_with (first | ((with_reducible refine gate_dst (N := 2) rfl ?_); refine box_event ?hg (N := 2) ?hd (cs := #[.int .i64 a0_0, .int .i64 a0_1, .int .i64 a0_2, .int .i64 a0_3, .int .i64 a0_4]) (t := 51) ?hr ?_; (case hd => rfl); (case hg => rfl); (case hr => first | (go_simp; done) | (go_simp; rfl)); intro gb321 hg w5 hbox hb; have BK321 := mk_ (hbox); have GW321 := mk_ (bz_ hg (bb_ HB)); have GE321 := mk_ (bz_ hg (bb_ HB)); replace HB := mk_ (below_step (bb_ HB) hb); clear hb hbox hg) | ((with_reducible refine gate_dst (N := 3) rfl ?_); refine box_event ?hg (N := 3) ?hd (cs := #[.int .i64 a1_0, .int .i64 a1_1, .int .i64 a1_2, .int .i64 a1_3, .int .i64 a1_4]) (t := 51) ?hr ?_; (case hd => rfl); (case hg => rfl); (case hr => first | (go_simp; done) | (go_simp; rfl)); intro gb322 hg w6 hbox hb; have BK322 := mk_ (hbox); have GW322 := mk_ (bz_ hg (bs_ HB GE321.out)); have GE322 := mk_ (bz_ hg (bs_ HB GE321.out)); replace HB := mk_ (below_step (bs_ HB GE321.out) hb); have NB321_322 := mk_ (bl_ hg (kk_ BK321)); have NB322_321 := mk_ (bg_ hg (kk_ BK321)); replace BK321 := mk_ (blk_below (kk_ BK321) hb); clear hb hbox hg))
 ·have n0_ := mk_ (blk_drew BK321.out)
  have n1_ := mk_ (blk_drew BK322.out)
  have n2_ := mk_ (below_drew1 HB.out)
  clear BK321
  clear BK322
  clear HB
  have BK321 := n0_
  have BK322 := n1_
  have HB := n2_
  clear n0_ n1_ n2_
  refine start_ (n := 15) (S := fun w' => w'.cell? ⟨gb321, 0, none⟩ = some (.int .i64 a0_0) ∧ w'.cell? ⟨gb321, 1, none⟩ = some (.int .i64 a0_1) ∧ w'.cell? ⟨gb321, 2, none⟩ = some (.int .i64 a0_2) ∧ w'.cell? ⟨gb321, 3, none⟩ = some (.int .i64 a0_3) ∧ w'.cell? ⟨gb321, 4, none⟩ = some (.int .i64 a0_4) ∧ w'.cell? ⟨gb322, 0, none⟩ = some (.int .i64 a1_0) ∧ w'.cell? ⟨gb322, 1, none⟩ = some (.int .i64 a1_1) ∧ w'.cell? ⟨gb322, 2, none⟩ = some (.int .i64 a1_2) ∧ w'.cell? ⟨gb322, 3, none⟩ = some (.int .i64 a1_3) ∧ w'.cell? ⟨gb322, 4, none⟩ = some (.int .i64 a1_4)) (ds := []) #[n_, n_, n_, n_, n_, n_, n_, n_, n_, n_, n_, n_, n_, n_, n_] (by kernel_rfl) rfl rfl ⟨(blk_cell BK321.out 0).trans rfl, (blk_cell BK321.out 1).trans rfl, (blk_cell BK321.out 2).trans rfl, (blk_cell BK321.out 3).trans rfl, (blk_cell BK321.out 4).trans rfl, (blk_cell BK322.out 0).trans rfl, (blk_cell BK322.out 1).trans rfl, (blk_cell BK322.out 2).trans rfl, (blk_cell BK322.out 3).trans rfl, (blk_cell BK322.out 4).trans rfl⟩ (fun hHeld => ?_); refine with_tabW cohousingref05_continues.tab1 cohousingref05_continues.bits1 (fun HT_ HW_ => ?_)
  generalize w6.drew = w7 at BK321 BK322 HB hHeld ⊢
  refine pu_ 0 5 (w_ 15 1) rfl HT_ ?_
  refine pu_ 2 7 (w_ 15 5) rfl HT_ ?_
  refine ta_ 1 6 (w_ 15 7) rfl HT_ HW_ hHeld (by rintro w' ⟨s0, s1, s2, s3, s4, s5, s6, s7, s8, s9⟩; go_simp; with_reducible rfl) ?_
  refine ta_ 3 8 (w_ 15 15) rfl HT_ HW_ hHeld (by rintro w' ⟨s0, s1, s2, s3, s4, s5, s6, s7, s8, s9⟩; go_simp; with_reducible rfl) ?_
  refine pu_ 4 9 (w_ 15 31) rfl HT_ ?_
  refine pu_ 5 10 (w_ 15 63) rfl HT_ ?_
  refine pu_ 7 12 (w_ 15 191) rfl HT_ ?_
  refine pu_ 10 15 (w_ 15 1215) rfl HT_ ?_
  refine ta_ 6 11 (w_ 15 1279) rfl HT_ HW_ hHeld (by rintro w' ⟨s0, s1, s2, s3, s4, s5, s6, s7, s8, s9⟩; go_simp; with_reducible rfl) ?_
  refine ta_ 8 13 (w_ 15 1535) rfl HT_ HW_ hHeld (by rintro w' ⟨s0, s1, s2, s3, s4, s5, s6, s7, s8, s9⟩; go_simp; with_reducible rfl) ?_
  refine ta_ 11 16 (w_ 15 3583) rfl HT_ HW_ hHeld (by rintro w' ⟨s0, s1, s2, s3, s4, s5, s6, s7, s8, s9⟩; go_simp; with_reducible rfl) ?_
  refine one_ (i := 9) (N := some 14) (w_ 15 4095) rfl rfl (one_of HT_.out (by kernel_rfl)) (by decide) (fun K hK => ?_)
  refine goes_ Try.func44 (by kernel_rfl) rfl #[.agg #[.int .i64 a0_0, .int .i64 a0_1, .int .i64 a0_2, .int .i64 a0_3, .int .i64 a0_4], .int .i64 a1_0] (by rfl) rfl rfl (by (try simp only [List.map_toArray, List.map_cons, List.map_nil]); first | done | rfl | (simp only [List.length_drop, List.length_take]; rfl)) ?_
  with_reducible refine (cohousingref05_Line.calls k a0_0 a0_1 a0_2 a0_3 a0_4 a1_0 t323 t324 _ A4.out).mono ?_
  rintro e w8 ⟨rfl, hb⟩
  refine ⟨_, rfl, ?_⟩
  replace BK321 := mk_ (blk_below (kk_ BK321) hb)
  replace BK322 := mk_ (blk_below (kk_ BK322) hb)
  replace HB := mk_ (below_step (bs2_ HB GE321 GE322) hb)
  (try clear hb)
  refine hK.out _ _ ⟨(blk_cell BK321.out 0).trans rfl, (blk_cell BK321.out 1).trans rfl, (blk_cell BK321.out 2).trans rfl, (blk_cell BK321.out 3).trans rfl, (blk_cell BK321.out 4).trans rfl, (blk_cell BK322.out 0).trans rfl, (blk_cell BK322.out 1).trans rfl, (blk_cell BK322.out 2).trans rfl, (blk_cell BK322.out 3).trans rfl, (blk_cell BK322.out 4).trans rfl⟩ (fun hHeld => ?_)
  clear hK K
  refine norm_ (a' := ?_) ?_ ?_
  rotate_left
  ·show Act.put _ (some 14) _ = _
   simp only [Act.put, sI_, s0_, sS_, i64_w, i32_w]
   rfl
  refine pu_ 12 17 (w_ 15 8191) rfl HT_ ?_
  refine pu_ 13 18 (w_ 15 16383) rfl HT_ ?_
  refine pu_ 14 4 (w_ 15 32767) rfl HT_ ?_
  refine done_ (done_of HT_.out (by kernel_rfl)) ?_
  try go_wp2
  go_ret
  exact ⟨ew_, bs2_ HB GE321 GE322⟩
 ·have n0_ := mk_ (blk_drew BK321.out)
  have n1_ := mk_ (blk_drew BK322.out)
  have n2_ := mk_ (below_drew1 HB.out)
  clear BK321
  clear BK322
  clear HB
  have BK321 := n0_
  have BK322 := n1_
  have HB := n2_
  clear n0_ n1_ n2_
  refine start_ (n := 15) (S := fun w' => w'.cell? ⟨gb321, 0, none⟩ = some (.int .i64 a0_0) ∧ w'.cell? ⟨gb321, 1, none⟩ = some (.int .i64 a0_1) ∧ w'.cell? ⟨gb321, 2, none⟩ = some (.int .i64 a0_2) ∧ w'.cell? ⟨gb321, 3, none⟩ = some (.int .i64 a0_3) ∧ w'.cell? ⟨gb321, 4, none⟩ = some (.int .i64 a0_4) ∧ w'.cell? ⟨gb322, 0, none⟩ = some (.int .i64 a1_0) ∧ w'.cell? ⟨gb322, 1, none⟩ = some (.int .i64 a1_1) ∧ w'.cell? ⟨gb322, 2, none⟩ = some (.int .i64 a1_2) ∧ w'.cell? ⟨gb322, 3, none⟩ = some (.int .i64 a1_3) ∧ w'.cell? ⟨gb322, 4, none⟩ = some (.int .i64 a1_4)) (ds := []) #[n_, n_, n_, n_, n_, n_, n_, n_, n_, n_, n_, n_, n_, n_, n_] (by kernel_rfl) rfl rfl ⟨(blk_cell BK321.out 0).trans rfl, (blk_cell BK321.out 1).trans rfl, (blk_cell BK321.out 2).trans rfl, (blk_cell BK321.out 3).trans rfl, (blk_cell BK321.out 4).trans rfl, (blk_cell BK322.out 0).trans rfl, (blk_cell BK322.out 1).trans rfl, (blk_cell BK322.out 2).trans rfl, (blk_cell BK322.out 3).trans rfl, (blk_cell BK322.out 4).trans rfl⟩ (fun hHeld => ?_); refine with_tabW cohousingref05_continues.tab1 cohousingref05_continues.bits1 (fun HT_ HW_ => ?_)
  generalize w6.drew = w11 at BK321 BK322 HB hHeld ⊢
  refine pu_ 0 5 (w_ 15 1) rfl HT_ ?_
  refine pu_ 2 7 (w_ 15 5) rfl HT_ ?_
  refine ta_ 1 6 (w_ 15 7) rfl HT_ HW_ hHeld (by rintro w' ⟨s0, s1, s2, s3, s4, s5, s6, s7, s8, s9⟩; go_simp; with_reducible rfl) ?_
  refine ta_ 3 8 (w_ 15 15) rfl HT_ HW_ hHeld (by rintro w' ⟨s0, s1, s2, s3, s4, s5, s6, s7, s8, s9⟩; go_simp; with_reducible rfl) ?_
  refine pu_ 4 9 (w_ 15 31) rfl HT_ ?_
  refine pu_ 5 10 (w_ 15 63) rfl HT_ ?_
  refine pn_ 6 11 (w_ 15 127) rfl HT_ ?_
  refine pn_ 7 12 (w_ 15 255) rfl HT_ ?_
  refine pn_ 8 13 (w_ 15 511) rfl HT_ ?_
  refine pn_ 9 14 (w_ 15 1023) rfl HT_ ?_
  refine pn_ 10 15 (w_ 15 2047) rfl HT_ ?_
  refine pn_ 11 16 (w_ 15 4095) rfl HT_ ?_
  refine pn_ 12 17 (w_ 15 8191) rfl HT_ ?_
  refine pu_ 13 18 (w_ 15 16383) rfl HT_ ?_
  refine pu_ 14 4 (w_ 15 32767) rfl HT_ ?_
  refine done_ (done_of HT_.out (by kernel_rfl)) ?_
  try go_wp2
  go_ret
  exact ⟨ew_, bs2_ HB GE321 GE322⟩
end
section
mutual
def cohousingref05_result.l0 : Nat → List (S51) → List (S51) → Int → Option ((List (S51)) × Int)
 | 0, _, _, _ => none
 | k + 1, x0, x4, x5 => if x5 < (x0.length : Int) then (if x5 > 0 then (if 0 ≤ (wrap64 (x5 - 1)) then (if (wrap64 (x5 - 1)) < (x0.length : Int) then (if 0 ≤ x5 then ((cohousingref05_continues.f k ((rd_T51 x0 (wrap64 (x5 - 1))).f0) ((rd_T51 x0 (wrap64 (x5 - 1))).f1.f0) ((rd_T51 x0 (wrap64 (x5 - 1))).f1.f1) ((rd_T51 x0 (wrap64 (x5 - 1))).f2.f0) ((rd_T51 x0 (wrap64 (x5 - 1))).f2.f1) ((rd_T51 x0 x5).f0) ((rd_T51 x0 x5).f1.f0) ((rd_T51 x0 x5).f1.f1) ((rd_T51 x0 x5).f2.f0) ((rd_T51 x0 x5).f2.f1)).bind fun t327 => (if t327 = true then (cohousingref05_result.l0 k x0 x4 (wrap64 (x5 + 1))) else (if x4.length < 3518437208883 then (cohousingref05_result.l0 k x0 (x4 ++ [(⟨(rd_T51 x0 x5).f0, (⟨(rd_T51 x0 x5).f1.f0, (rd_T51 x0 x5).f1.f1⟩ : S24), (⟨(rd_T51 x0 x5).f2.f0, (rd_T51 x0 x5).f2.f1⟩ : S24)⟩ : S51)]) (wrap64 (x5 + 1))) else (none)))) else (none)) else (none)) else (none)) else (if 0 ≤ x5 then (if x4.length < 3518437208883 then (cohousingref05_result.l0 k x0 (x4 ++ [(⟨(rd_T51 x0 x5).f0, (⟨(rd_T51 x0 x5).f1.f0, (rd_T51 x0 x5).f1.f1⟩ : S24), (⟨(rd_T51 x0 x5).f2.f0, (rd_T51 x0 x5).f2.f1⟩ : S24)⟩ : S51)]) (wrap64 (x5 + 1))) else (none)) else (none))) else (cohousingref05_result.l1 k x4 0)
def cohousingref05_result.l1 : Nat → List (S51) → Int → Option ((List (S51)) × Int)
 | 0, _, _ => none
 | k + 1, x4, x7 => if x7 < (x4.length : Int) then (if 0 ≤ x7 then ((cohousingref05_Valid.f k (([(⟨0, (⟨(rd_T51 x4 x7).f1.f0, (rd_T51 x4 x7).f1.f1⟩ : S24), (⟨(rd_T51 x4 x7).f2.f0, (rd_T51 x4 x7).f2.f1⟩ : S24)⟩ : S51)] : List (S51)))).bind fun t341 => (if t341 = true then (cohousingref05_result.l1 k x4 (wrap64 (x7 + 1))) else (some (([] : List (S51)), 3)))) else (none)) else (if (x4.length : Int) > 64 then (some (([] : List (S51)), 2)) else (some (x4, 0)))
end
def cohousingref05_result.f (k : Nat) (l0 : List (S51)) : Option ((List (S51)) × Int) := cohousingref05_result.l0 k l0 ([] : List (S51)) 0
def cohousingref05_result.T6 : Bool × List (List Nat × List Nat) := (true, [([], []), ([], []), ([1], [1]), ([0, 2], [0, 2]), ([3], [3]), ([], []), ([], []), ([5, 6], [5, 6]), ([7], [7]), ([4, 8], [4, 8]), ([9, 9, 0, 1, 2, 3, 4, 5, 6, 7, 8, 9], [9])])
def cohousingref05_result.B6 : List Nat := [0, 0, 2, 7, 15, 0, 0, 96, 224, 511, 1023]
theorem cohousingref05_result.tab6 : rtab .any (opsOf Try.f45 6) = cohousingref05_result.T6 := by kernel_rfl
theorem cohousingref05_result.bits6 : waitsOk cohousingref05_result.T6.2 cohousingref05_result.B6 = true := by kernel_rfl
theorem cohousingref05_result.calls (k : Nat) (A0 : Option Addr) (c0 : Nat) (l0 : List (S51)) (r1 : List (S51)) (r2 : Int) (w : World) (hr0 : Kd.C k51 w A0 l0.length l0) (hc0 : l0.length ≤ c0) (h : cohousingref05_result.f k l0 = some (r1, r2)) :
  Calls Try.prog 45 #[.slice A0 l0.length c0] w fun e w' => ∃ v0_ : Value, e = .returned (.tuple #[v0_, .int .i64 r2]) ∧ Kd.R k51 51 w' w.heap.size (fun _ => True) v0_ r1 ∧ Below w.heap.size w w' := by
 have hu51 := Try.underlying51
 have HR0 := mk_ hr0
 have HC0 := mk_ hc0
 clear hr0 hc0
 have HB := mk_ (Below.refl w.heap.size w)
 have H : (cohousingref05_result.l0 k l0 ([] : List (S51)) 0) = some (r1, r2) := h
 clear h
 have H' := mk_ H
 clear H
 go_enter Try.func45, Try.ntmps45
 go_wp2
 go_loopg [4, 5] k (fun kq v4 v5 w' => ∃ (x4_1 : List (S51)) (x5_1 : Int), v5 = .int .i64 x5_1 ∧ Aside0 (cohousingref05_result.l0 kq l0 x4_1 x5_1 = some (r1, r2)) ∧ Aside0 (kq ≤ k) ∧ Aside0 (Kd.R k51 51 w' w.heap.size (fun _ => True) v4 x4_1) ∧ Aside0 (Below w.heap.size w w'))
 case atStart => exact ⟨(([] : List (S51))), (0), sd_, H', ⟨Nat.le_refl _⟩, ⟨by first | exact Kd.R_nil _ _ _ _ _ | exact Kd.N_nil _ _ _ _ _ | exact Kd.V_nil _ _ _ _ _ | exact Kd.Q_nil _ _ _ _ _ | exact Kd.S_nil _ _ _ _ _⟩, ⟨bb_ HB⟩⟩
 case round =>
  clear H'
  obtain ⟨x4_1, x5_1, rfl, HA, HK1, HO_4, HB⟩ := hrel
  cases gk with
  | zero => exact absurd HA.out (by simp [cohousingref05_result.l0])
  | succ k1 =>
   have H := HA.out
   clear HA
   simp only [cohousingref05_result.l0] at H
   by_cases c2 : x5_1 < (l0.length : Int)
   rotate_left
   ·rw [if_neg c2] at H
    have c2b0 : decide (x5_1 < (l0.length : Int)) = false := decide_eq_false c2
    clear c2
    have H' := mk_ H
    clear H
    go_wp2
    go_loopg [7] k1 (fun kq v7 w' => ∃ (x7_2 : Int), v7 = .int .i64 x7_2 ∧ Aside0 (cohousingref05_result.l1 kq x4_1 x7_2 = some (r1, r2)) ∧ Aside0 (kq ≤ k1) ∧ Aside0 (Kd.R k51 51 w' w.heap.size (fun _ => True) u4 x4_1) ∧ Aside0 (Below w.heap.size w w'))
    case atStart => exact ⟨(0), sd_, H', ⟨Nat.le_refl _⟩, ⟨rr_ HO_4⟩, ⟨bb_ HB⟩⟩
    case round =>
     clear H'
     obtain ⟨x7_2, rfl, HA, HK2, HO_4, HB⟩ := hrel
     cases gk with
     | zero => exact absurd HA.out (by simp [cohousingref05_result.l1])
     | succ k2 =>
      have H := HA.out
      clear HA
      simp only [cohousingref05_result.l1] at H
      by_cases c19 : x7_2 < (x4_1.length : Int)
      rotate_left
      ·rw [if_neg c19] at H
       have c19b0 : decide (x7_2 < (x4_1.length : Int)) = false := decide_eq_false c19
       clear c19
       by_cases c37 : (x4_1.length : Int) > 64
       rotate_left
       ·rw [if_neg c37] at H
        have c37b0 : decide (64 < (x4_1.length : Int)) = false := decide_eq_false c37
        have c37b1 : decide (64 < x4_1.length) = false := decide_eq_false (by omega)
        clear c37
        simp only [Option.some.injEq, Prod.mk.injEq] at H
        obtain ⟨rfl, rfl⟩ := H
        obtain ⟨Ao39, co39, eo39⟩ := Kd.R_slice HO_4.out
        subst eo39
        go_wp2
        go_ret2
        exact ⟨_, ew_, rr_ HO_4, bb_ HB⟩
       rw [if_pos c37] at H
       have c37b0 : decide (64 < (x4_1.length : Int)) = true := decide_eq_true c37
       have c37b1 : decide (64 < x4_1.length) = true := decide_eq_true (by omega)
       clear c37
       simp only [Option.some.injEq, Prod.mk.injEq] at H
       obtain ⟨rfl, rfl⟩ := H
       obtain ⟨Ao38, co38, eo38⟩ := Kd.R_slice HO_4.out
       subst eo38
       go_wp2
       go_ret2
       exact ⟨_, ew_, by first | exact Kd.R_nil _ _ _ _ _ | exact Kd.N_nil _ _ _ _ _ | exact Kd.V_nil _ _ _ _ _ | exact Kd.Q_nil _ _ _ _ _ | exact Kd.S_nil _ _ _ _ _, bb_ HB⟩
      rw [if_pos c19] at H
      have c19b0 : decide (x7_2 < (x4_1.length : Int)) = true := decide_eq_true c19
      clear c19
      by_cases c20 : 0 ≤ x7_2
      rotate_left
      ·rw [if_neg c20] at H
       exact absurd H (by simp)
      rw [if_pos c20] at H
      have c20b0 : decide (0 ≤ x7_2) = true := decide_eq_true c20
      clear c20
      obtain ⟨y338, hy338⟩ : ∃ y_ : List (S51), y_ = (([(⟨0, (⟨(rd_T51 x4_1 x7_2).f1.f0, (rd_T51 x4_1 x7_2).f1.f1⟩ : S24), (⟨(rd_T51 x4_1 x7_2).f2.f0, (rd_T51 x4_1 x7_2).f2.f1⟩ : S24)⟩ : S51)] : List (S51))) := ⟨_, rfl⟩
      replace H : ((cohousingref05_Valid.f k2 y338).bind fun t341 => (if t341 = true then (cohousingref05_result.l1 k2 x4_1 (wrap64 (x7_2 + 1))) else (some (([] : List (S51)), 3)))) = some (r1, r2) := by first | (rw [hy338]; with_reducible exact H) | (have H2_ := (Option.bind_some _ _).symm.trans H; rw [hy338]; with_reducible exact H2_) | (have H2_ := (Option.bind_some _ _).symm.trans H; with_reducible exact H2_) | with_reducible exact H | (rw [hy338]; exact H) | exact H
      have Ny338 := mk_ hy338
      clear hy338
      replace H := Option.bind_eq_some_iff.mp H
      obtain ⟨t341, A210, H⟩ := H
      replace H : (if t341 = true then (cohousingref05_result.l1 k2 x4_1 (wrap64 (x7_2 + 1))) else (some (([] : List (S51)), 3))) = some (r1, r2) := H
      have A21 := mk_ A210
      clear A210
      by_cases c22 : t341 = true
      case' _ =>
       subst c22
       have H1 : (cohousingref05_result.l1 k2 x4_1 (wrap64 (x7_2 + 1))) = some (r1, r2) := by rw [if_pos rfl] at H; exact H
       clear H
       have H := H1
       clear H1
       have H' := mk_ H
       clear H
       obtain ⟨Ao23, co23, eo23⟩ := Kd.R_slice HO_4.out
       subst eo23
       have p336 : 0 ≤ (x7_2 : Int) := od_
       have q336 : x7_2 < (x4_1.length : Int) := od_
       obtain ⟨ad336, e336, hx336_0, hx336_1, hx336_2, hx336_3, hx336_4⟩ := at_T51 (Kd.R_reads' HO_4.out).2.2 x7_2 p336 q336
       cases e336
       replace p336 := eq_true p336
       replace q336 := eq_true q336
      rotate_left
      case' _ =>
       replace c22 := Bool.eq_false_iff.mpr c22
       subst c22
       have H1 : (some (([] : List (S51)), 3)) = some (r1, r2) := by rw [if_neg (show ¬ (false = true) by decide)] at H; exact H
       clear H
       have H := H1
       clear H1
       simp only [Option.some.injEq, Prod.mk.injEq] at H
       obtain ⟨rfl, rfl⟩ := H
       obtain ⟨Ao30, co30, eo30⟩ := Kd.R_slice HO_4.out
       subst eo30
       have p336 : 0 ≤ (x7_2 : Int) := od_
       have q336 : x7_2 < (x4_1.length : Int) := od_
       obtain ⟨ad336, e336, hx336_0, hx336_1, hx336_2, hx336_3, hx336_4⟩ := at_T51 (Kd.R_reads' HO_4.out).2.2 x7_2 p336 q336
       cases e336
       replace p336 := eq_true p336
       replace q336 := eq_true q336
      rotate_left
      all_goals go_wp2_with (first | ((with_reducible refine gate_dst (N := 8) rfl ?_); refine box_event ?hg (N := 8) ?hd (cs := #[.int .i64 0, .int .i64 0, .int .i64 0, .int .i64 0, .int .i64 0]) (t := 51) ?hr ?_; (case hd => rfl); (case hg => rfl); (case hr => first | (go_simp; done) | (go_simp; rfl)); intro gb337 hg w24 hbox hb; replace HO_4 := mk_ (Kd.R_below (Kd.R_elderB (rr_ HO_4) gb337 (Nat.le_of_eq hg.symm)) hb); have BK337 := mk_ (hbox); have GW337 := mk_ (bz_ hg (bb_ HB)); have GE337 := mk_ (bz_ hg (bb_ HB)); replace HB := mk_ (below_step (bb_ HB) hb); clear hb hbox hg; have hcz25_0 := bc0_ BK337.out; have hcz25_1 := bc1_ BK337.out; have hcz25_2 := bc2_ BK337.out; have hcz25_3 : w24.cell? ⟨gb337, 3, none⟩ = some (.int .i64 0) := (blk_cell BK337.out 3).trans rfl; have hcz25_4 : w24.cell? ⟨gb337, 4, none⟩ = some (.int .i64 0) := (blk_cell BK337.out 4).trans rfl; have hfz25_0 := blk_frozen BK337.out 0; have hfz25_1 := blk_frozen BK337.out 1; have hfz25_2 := blk_frozen BK337.out 2; have hfz25_3 := blk_frozen BK337.out 3; have hfz25_4 := blk_frozen BK337.out 4) | ((with_reducible refine gate_dst (N := 48) rfl ?_); refine Kd.R_lit k51 _ 51 ?hg (N := 48) ?hd (xs := ([(⟨0, (⟨(rd_T51 x4_1 x7_2).f1.f0, (rd_T51 x4_1 x7_2).f1.f1⟩ : S24), (⟨(rd_T51 x4_1 x7_2).f2.f0, (rd_T51 x4_1 x7_2).f2.f1⟩ : S24)⟩ : S51)] : List (S51))) (inner := [.int .i64 0, .int .i64 ((rd_T51 x4_1 x7_2).f1.f0), .int .i64 ((rd_T51 x4_1 x7_2).f1.f1), .int .i64 ((rd_T51 x4_1 x7_2).f2.f0), .int .i64 ((rd_T51 x4_1 x7_2).f2.f1)]) (ok := fun _ => True) (okp := fun _ => True) ?hr ?hp (fun _ hk => hk) trivial (Below.refl _ _) (Nat.le_refl _) (by simp) ?_; (case hd => rfl); (case hg => rfl); (case hr => first | (go_simp; done) | (go_simp; rfl)); (case hp => exact (Reps.c5 (show Kd.M k51 _ _ _ (⟨0, (⟨(rd_T51 x4_1 x7_2).f1.f0, (rd_T51 x4_1 x7_2).f1.f1⟩ : S24), (⟨(rd_T51 x4_1 x7_2).f2.f0, (rd_T51 x4_1 x7_2).f2.f1⟩ : S24)⟩ : S51) [.int .i64 0, .int .i64 ((rd_T51 x4_1 x7_2).f1.f0), .int .i64 ((rd_T51 x4_1 x7_2).f1.f1), .int .i64 ((rd_T51 x4_1 x7_2).f2.f0), .int .i64 ((rd_T51 x4_1 x7_2).f2.f1)] from (k51_mkM _ _ _ (⟨0, (⟨(rd_T51 x4_1 x7_2).f1.f0, (rd_T51 x4_1 x7_2).f1.f1⟩ : S24), (⟨(rd_T51 x4_1 x7_2).f2.f0, (rd_T51 x4_1 x7_2).f2.f1⟩ : S24)⟩ : S51) )) (Reps.none _ _))); intro v339 w26 ho27 hb hg_ hnew_; clear hg_ hnew_; (first | rw [← Ny338.out] at ho27 | (simp only [Int.reduceToNat] at ho27; rw [← Ny338.out] at ho27)); have HO340 := mk_ (Kd.R_lower (Kd.R_newB (Kd.R_new' ho27 (Kd.R_lt (by (with_reducible repeat (first | apply Kd.R_alloc | apply Kd.R_drewN | apply Kd.R_drew)); exact (Kd.R_mono (Kd.R_far (p := ⟨gb337, 0, none⟩) (Kd.R_far (p := ⟨gb337, 4, none⟩) (Kd.R_far (p := ⟨gb337, 3, none⟩) (Kd.R_far (p := ⟨gb337, 2, none⟩) (Kd.R_far (p := ⟨gb337, 1, none⟩) (Kd.R_far (p := ⟨gb337, 0, none⟩) (Kd.R_mono HO_4.out (fun k_ hk => (⟨hk, hk.2⟩ : _ ∧ k_ ≠ gb337))) (fun _ hk => hk.2) (.int .i64 ((rd_T51 x4_1 x7_2).f0))) (fun _ hk => hk.2) (.int .i64 ((rd_T51 x4_1 x7_2).f1.f0))) (fun _ hk => hk.2) (.int .i64 ((rd_T51 x4_1 x7_2).f1.f1))) (fun _ hk => hk.2) (.int .i64 ((rd_T51 x4_1 x7_2).f2.f0))) (fun _ hk => hk.2) (.int .i64 ((rd_T51 x4_1 x7_2).f2.f1))) (fun _ hk => hk.2) (.int .i64 0)) (fun _ h_ => h_.1))))) (g := gb337) (o := .cells #[.int .i64 0, .int .i64 ((rd_T51 x4_1 x7_2).f1.f0), .int .i64 ((rd_T51 x4_1 x7_2).f1.f1), .int .i64 ((rd_T51 x4_1 x7_2).f2.f0), .int .i64 ((rd_T51 x4_1 x7_2).f2.f1)] 51 (0, 0)) (by (with_reducible repeat (first | refine blk_drewN ?_ _ | refine blk_drew ?_ | refine blk_alloc ?_ _)); refine blk_put (cs := #[.int .i64 ((rd_T51 x4_1 x7_2).f0), .int .i64 ((rd_T51 x4_1 x7_2).f1.f0), .int .i64 ((rd_T51 x4_1 x7_2).f1.f1), .int .i64 ((rd_T51 x4_1 x7_2).f2.f0), .int .i64 ((rd_T51 x4_1 x7_2).f2.f1)]) ?_ 0 _ rfl; (with_reducible repeat (first | refine blk_drewN ?_ _ | refine blk_drew ?_ | refine blk_alloc ?_ _)); refine blk_put (cs := #[.int .i64 ((rd_T51 x4_1 x7_2).f0), .int .i64 ((rd_T51 x4_1 x7_2).f1.f0), .int .i64 ((rd_T51 x4_1 x7_2).f1.f1), .int .i64 ((rd_T51 x4_1 x7_2).f2.f0), .int .i64 0]) ?_ 4 _ rfl; (with_reducible repeat (first | refine blk_drewN ?_ _ | refine blk_drew ?_ | refine blk_alloc ?_ _)); refine blk_put (cs := #[.int .i64 ((rd_T51 x4_1 x7_2).f0), .int .i64 ((rd_T51 x4_1 x7_2).f1.f0), .int .i64 ((rd_T51 x4_1 x7_2).f1.f1), .int .i64 0, .int .i64 0]) ?_ 3 _ rfl; (with_reducible repeat (first | refine blk_drewN ?_ _ | refine blk_drew ?_ | refine blk_alloc ?_ _)); refine blk_put (cs := #[.int .i64 ((rd_T51 x4_1 x7_2).f0), .int .i64 ((rd_T51 x4_1 x7_2).f1.f0), .int .i64 0, .int .i64 0, .int .i64 0]) ?_ 2 _ rfl; (with_reducible repeat (first | refine blk_drewN ?_ _ | refine blk_drew ?_ | refine blk_alloc ?_ _)); refine blk_put (cs := #[.int .i64 ((rd_T51 x4_1 x7_2).f0), .int .i64 0, .int .i64 0, .int .i64 0, .int .i64 0]) ?_ 1 _ rfl; (with_reducible repeat (first | refine blk_drewN ?_ _ | refine blk_drew ?_ | refine blk_alloc ?_ _)); refine blk_put (cs := #[.int .i64 0, .int .i64 0, .int .i64 0, .int .i64 0, .int .i64 0]) ?_ 0 _ rfl; (with_reducible repeat (first | refine blk_drewN ?_ _ | refine blk_drew ?_ | refine blk_alloc ?_ _)); exact BK337.out)) (below_size (bs_ HB GE337.out))); replace HO_4 := mk_ (Kd.R_elder' (by (with_reducible repeat (first | apply Kd.R_alloc | apply Kd.R_drewN | apply Kd.R_drew)); exact (Kd.R_mono (Kd.R_far (p := ⟨gb337, 0, none⟩) (Kd.R_far (p := ⟨gb337, 4, none⟩) (Kd.R_far (p := ⟨gb337, 3, none⟩) (Kd.R_far (p := ⟨gb337, 2, none⟩) (Kd.R_far (p := ⟨gb337, 1, none⟩) (Kd.R_far (p := ⟨gb337, 0, none⟩) (Kd.R_mono HO_4.out (fun k_ hk => (⟨hk, hk.2⟩ : _ ∧ k_ ≠ gb337))) (fun _ hk => hk.2) (.int .i64 ((rd_T51 x4_1 x7_2).f0))) (fun _ hk => hk.2) (.int .i64 ((rd_T51 x4_1 x7_2).f1.f0))) (fun _ hk => hk.2) (.int .i64 ((rd_T51 x4_1 x7_2).f1.f1))) (fun _ hk => hk.2) (.int .i64 ((rd_T51 x4_1 x7_2).f2.f0))) (fun _ hk => hk.2) (.int .i64 ((rd_T51 x4_1 x7_2).f2.f1))) (fun _ hk => hk.2) (.int .i64 0)) (fun _ h_ => h_.1))) (Kd.R_base ho27) hb); replace BK337 := mk_ (blk_below (g := gb337) (o := .cells #[.int .i64 0, .int .i64 ((rd_T51 x4_1 x7_2).f1.f0), .int .i64 ((rd_T51 x4_1 x7_2).f1.f1), .int .i64 ((rd_T51 x4_1 x7_2).f2.f0), .int .i64 ((rd_T51 x4_1 x7_2).f2.f1)] 51 (0, 0)) (by (with_reducible repeat (first | refine blk_drewN ?_ _ | refine blk_drew ?_ | refine blk_alloc ?_ _)); refine blk_put (cs := #[.int .i64 ((rd_T51 x4_1 x7_2).f0), .int .i64 ((rd_T51 x4_1 x7_2).f1.f0), .int .i64 ((rd_T51 x4_1 x7_2).f1.f1), .int .i64 ((rd_T51 x4_1 x7_2).f2.f0), .int .i64 ((rd_T51 x4_1 x7_2).f2.f1)]) ?_ 0 _ rfl; (with_reducible repeat (first | refine blk_drewN ?_ _ | refine blk_drew ?_ | refine blk_alloc ?_ _)); refine blk_put (cs := #[.int .i64 ((rd_T51 x4_1 x7_2).f0), .int .i64 ((rd_T51 x4_1 x7_2).f1.f0), .int .i64 ((rd_T51 x4_1 x7_2).f1.f1), .int .i64 ((rd_T51 x4_1 x7_2).f2.f0), .int .i64 0]) ?_ 4 _ rfl; (with_reducible repeat (first | refine blk_drewN ?_ _ | refine blk_drew ?_ | refine blk_alloc ?_ _)); refine blk_put (cs := #[.int .i64 ((rd_T51 x4_1 x7_2).f0), .int .i64 ((rd_T51 x4_1 x7_2).f1.f0), .int .i64 ((rd_T51 x4_1 x7_2).f1.f1), .int .i64 0, .int .i64 0]) ?_ 3 _ rfl; (with_reducible repeat (first | refine blk_drewN ?_ _ | refine blk_drew ?_ | refine blk_alloc ?_ _)); refine blk_put (cs := #[.int .i64 ((rd_T51 x4_1 x7_2).f0), .int .i64 ((rd_T51 x4_1 x7_2).f1.f0), .int .i64 0, .int .i64 0, .int .i64 0]) ?_ 2 _ rfl; (with_reducible repeat (first | refine blk_drewN ?_ _ | refine blk_drew ?_ | refine blk_alloc ?_ _)); refine blk_put (cs := #[.int .i64 ((rd_T51 x4_1 x7_2).f0), .int .i64 0, .int .i64 0, .int .i64 0, .int .i64 0]) ?_ 1 _ rfl; (with_reducible repeat (first | refine blk_drewN ?_ _ | refine blk_drew ?_ | refine blk_alloc ?_ _)); refine blk_put (cs := #[.int .i64 0, .int .i64 0, .int .i64 0, .int .i64 0, .int .i64 0]) ?_ 0 _ rfl; (with_reducible repeat (first | refine blk_drewN ?_ _ | refine blk_drew ?_ | refine blk_alloc ?_ _)); exact BK337.out) hb); replace HB := mk_ (below_step (bs_ HB GE337.out) hb); clear hb ho27; obtain ⟨Ao28, co28, eo28⟩ := Kd.R_slice HO340.out; subst eo28) | ((with_reducible refine gate_callee (f := 15) rfl ?_); refine gl_ (some 49) Try.func15 #[.slice Ao28 y338.length co28] ?_; (with_reducible refine (cohousingref05_Valid.calls k2 _ _ y338 _ _ ?side1 ?side2 A21.out).mono ?_); (case side1 => exact cc_ ((Kd.R_reads' HO340.out).2.2)); (case side2 => exact (Kd.R_reads' HO340.out).2.1); rintro e w29 ⟨rfl, hb⟩; refine ⟨_, rfl, ?_⟩; replace HO_4 := mk_ (Kd.R_below (rr_ HO_4) hb); replace HO340 := mk_ (Kd.R_below (rr_ HO340) hb); replace BK337 := mk_ (blk_below (kk_ BK337) hb); replace HB := mk_ (below_step (bs_ HB GE337.out) hb); (try clear hb)))
      ·go_roundg k2
       case measure => have := HK1.out; have := HK2.out; omega
       case rel => exact ⟨(wrap64 (x7_2 + 1)), sd_, H', ⟨by have := HK1.out; have := HK2.out; omega⟩, ⟨by (with_reducible repeat (first | apply Kd.R_alloc | apply Kd.R_drewN | apply Kd.R_drew)); exact Kd.R_mono HO_4.out (fun _ hk => trivial)⟩, ⟨bs1_ HB GE337⟩⟩
      ·go_ret2
       exact ⟨_, ew_, by first | exact Kd.R_nil _ _ _ _ _ | exact Kd.N_nil _ _ _ _ _ | exact Kd.V_nil _ _ _ _ _ | exact Kd.Q_nil _ _ _ _ _ | exact Kd.S_nil _ _ _ _ _, bs1_ HB GE337⟩
   rw [if_pos c2] at H
   have c2b0 : decide (x5_1 < (l0.length : Int)) = true := decide_eq_true c2
   clear c2
   by_cases c3 : x5_1 > 0
   rotate_left
   ·rw [if_neg c3] at H
    have c3b0 : decide (0 < x5_1) = false := decide_eq_false c3
    clear c3
    by_cases c16 : 0 ≤ x5_1
    rotate_left
    ·rw [if_neg c16] at H
     exact absurd H (by simp)
    rw [if_pos c16] at H
    have c16b0 : decide (0 ≤ x5_1) = true := decide_eq_true c16
    clear c16
    by_cases c17 : x4_1.length < 3518437208883
    rotate_left
    ·rw [if_neg c17] at H
     exact absurd H (by simp)
    rw [if_pos c17] at H
    have LMc17 := mk_ c17
    clear c17
    obtain ⟨y333, hy333⟩ : ∃ y_ : List (S51), y_ = (x4_1 ++ [(⟨(rd_T51 l0 x5_1).f0, (⟨(rd_T51 l0 x5_1).f1.f0, (rd_T51 l0 x5_1).f1.f1⟩ : S24), (⟨(rd_T51 l0 x5_1).f2.f0, (rd_T51 l0 x5_1).f2.f1⟩ : S24)⟩ : S51)]) := ⟨_, rfl⟩
    replace H : (cohousingref05_result.l0 k1 l0 y333 (wrap64 (x5_1 + 1))) = some (r1, r2) := by first | (rw [hy333]; with_reducible exact H) | (have H2_ := (Option.bind_some _ _).symm.trans H; rw [hy333]; with_reducible exact H2_) | (have H2_ := (Option.bind_some _ _).symm.trans H; with_reducible exact H2_) | with_reducible exact H | (rw [hy333]; exact H) | exact H
    have Ny333 := mk_ hy333
    clear hy333
    have H' := mk_ H
    clear H
    have p332 : 0 ≤ (x5_1 : Int) := od_
    have q332 : x5_1 < (l0.length : Int) := od_
    obtain ⟨ad332, e332, hx332_0, hx332_1, hx332_2, hx332_3, hx332_4⟩ := at_T51 HR0.out x5_1 p332 q332
    cases e332
    replace hx332_0 := cb_ HB hx332_0
    replace hx332_1 := cb_ HB hx332_1
    replace hx332_2 := cb_ HB hx332_2
    replace hx332_3 := cb_ HB hx332_3
    replace hx332_4 := cb_ HB hx332_4
    replace p332 := eq_true p332
    replace q332 := eq_true q332
    go_wp2_with (first | ((with_reducible refine gate_builtin (b := .append) (xs := #[.tmp 29, .tmp 34]) rfl ?_); at_builtin; refine Kd.R_append k51 (w0 := w) w.heap.size rfl (.tmp 29) (.tmp 34) 22 51 (.agg #[(.int .i64 0), (.int .i64 0), (.int .i64 0), (.int .i64 0), (.int .i64 0)]) 40 rfl Try.underlying22 info51 rfl (by decide) (by omega) u4 x4_1 (⟨(rd_T51 l0 x5_1).f0, (⟨(rd_T51 l0 x5_1).f1.f0, (rd_T51 l0 x5_1).f1.f1⟩ : S24), (⟨(rd_T51 l0 x5_1).f2.f0, (rd_T51 l0 x5_1).f2.f1⟩ : S24)⟩ : S51) [.int .i64 ((rd_T51 l0 x5_1).f0), .int .i64 ((rd_T51 l0 x5_1).f1.f0), .int .i64 ((rd_T51 l0 x5_1).f1.f1), .int .i64 ((rd_T51 l0 x5_1).f2.f0), .int .i64 ((rd_T51 l0 x5_1).f2.f1)] (fun _ => True) (fun _ => False) rfl rfl ?aP (fun _ hk => hk.elim) ?aF ?aO ?aB ?aS ?aL ?_; (case aP => exact k51_mkM _ _ _ (⟨(rd_T51 l0 x5_1).f0, (⟨(rd_T51 l0 x5_1).f1.f0, (rd_T51 l0 x5_1).f1.f1⟩ : S24), (⟨(rd_T51 l0 x5_1).f2.f0, (rd_T51 l0 x5_1).f2.f1⟩ : S24)⟩ : S51)); (case aB => exact (bb_ HB)); (case aF => exact (fun _ _ => trivial)); (case aO => exact (rr_ HO_4)); (case aS => exact (below_size (bb_ HB))); (case aL => have := LMc17.out; omega); intro v334 w18 ho hb hg hat; rw [← Ny333.out] at ho; have n0_ := mk_ (hb); have n1_ := mk_ (ho); clear HB HO_4; revert n0_ n1_; intro HB HO335; clear ho hb hg hat))
    go_roundg k1
    case measure => have := HK1.out; omega
    case rel => exact ⟨(y333), (wrap64 (x5_1 + 1)), sd_, H', ⟨by have := HK1.out; omega⟩, ⟨rr_ HO335⟩, ⟨bb_ HB⟩⟩
   rw [if_pos c3] at H
   have c3b0 : decide (0 < x5_1) = true := decide_eq_true c3
   clear c3
   obtain ⟨ji4, hji4⟩ : ∃ j_ : Int, (wrap64 (x5_1 - 1)) = j_ := ⟨_, rfl⟩
   replace H : (if 0 ≤ (ji4) then (if (ji4) < (l0.length : Int) then (if 0 ≤ x5_1 then ((cohousingref05_continues.f k1 ((rd_T51 l0 (ji4)).f0) ((rd_T51 l0 (ji4)).f1.f0) ((rd_T51 l0 (ji4)).f1.f1) ((rd_T51 l0 (ji4)).f2.f0) ((rd_T51 l0 (ji4)).f2.f1) ((rd_T51 l0 x5_1).f0) ((rd_T51 l0 x5_1).f1.f0) ((rd_T51 l0 x5_1).f1.f1) ((rd_T51 l0 x5_1).f2.f0) ((rd_T51 l0 x5_1).f2.f1)).bind fun t327 => (if t327 = true then (cohousingref05_result.l0 k1 l0 x4_1 (wrap64 (x5_1 + 1))) else (if x4_1.length < 3518437208883 then (cohousingref05_result.l0 k1 l0 (x4_1 ++ [(⟨(rd_T51 l0 x5_1).f0, (⟨(rd_T51 l0 x5_1).f1.f0, (rd_T51 l0 x5_1).f1.f1⟩ : S24), (⟨(rd_T51 l0 x5_1).f2.f0, (rd_T51 l0 x5_1).f2.f1⟩ : S24)⟩ : S51)]) (wrap64 (x5_1 + 1))) else (none)))) else (none)) else (none)) else (none)) = some (r1, r2) := by first | (rw [hji4] at H; exact H) | (simp only [hji4] at H ⊢; exact H)
   have hji4w : (IntKind.i64.wrap (x5_1 - 1)) = ji4 := (i64_w _).trans hji4
   by_cases c5 : 0 ≤ (ji4)
   rotate_left
   ·rw [if_neg c5] at H
    exact absurd H (by simp)
   rw [if_pos c5] at H
   have c5b0 : decide (0 ≤ (ji4)) = true := decide_eq_true c5
   clear c5
   by_cases c6 : (ji4) < (l0.length : Int)
   rotate_left
   ·rw [if_neg c6] at H
    exact absurd H (by simp)
   rw [if_pos c6] at H
   have c6b0 : decide ((ji4) < (l0.length : Int)) = true := decide_eq_true c6
   clear c6
   by_cases c7 : 0 ≤ x5_1
   rotate_left
   ·rw [if_neg c7] at H
    exact absurd H (by simp)
   rw [if_pos c7] at H
   have c7b0 : decide (0 ≤ x5_1) = true := decide_eq_true c7
   clear c7
   replace H := Option.bind_eq_some_iff.mp H
   obtain ⟨t327, A80, H⟩ := H
   replace H : (if t327 = true then (cohousingref05_result.l0 k1 l0 x4_1 (wrap64 (x5_1 + 1))) else (if x4_1.length < 3518437208883 then (cohousingref05_result.l0 k1 l0 (x4_1 ++ [(⟨(rd_T51 l0 x5_1).f0, (⟨(rd_T51 l0 x5_1).f1.f0, (rd_T51 l0 x5_1).f1.f1⟩ : S24), (⟨(rd_T51 l0 x5_1).f2.f0, (rd_T51 l0 x5_1).f2.f1⟩ : S24)⟩ : S51)]) (wrap64 (x5_1 + 1))) else (none))) = some (r1, r2) := H
   have A8 := mk_ A80
   clear A80
   by_cases c9 : t327 = true
   ·subst c9
    have H1 : (cohousingref05_result.l0 k1 l0 x4_1 (wrap64 (x5_1 + 1))) = some (r1, r2) := by rw [if_pos rfl] at H; exact H
    clear H
    have H := H1
    clear H1
    have H' := mk_ H
    clear H
    try go_wp2
    replace HO_4 := mk_ (Kd.R_drew HO_4.out)
    replace HB := mk_ (below_drew1 HB.out)
    have p325 : 0 ≤ ((ji4) : Int) := od_
    have q325 : (ji4) < (l0.length : Int) := od_
    obtain ⟨ad325, e325, hx325_0, hx325_1, hx325_2, hx325_3, hx325_4⟩ := at_T51 HR0.out (ji4) p325 q325
    have hw325_4 := hx325_4
    have hw325_3 := hx325_3
    have hw325_2 := hx325_2
    have hw325_1 := hx325_1
    have hw325_0 := hx325_0
    cases e325
    replace hx325_0 := cb_ HB hx325_0
    replace hx325_1 := cb_ HB hx325_1
    replace hx325_2 := cb_ HB hx325_2
    replace hx325_3 := cb_ HB hx325_3
    replace hx325_4 := cb_ HB hx325_4
    replace p325 := eq_true p325
    replace q325 := eq_true q325
    have p326 : 0 ≤ (x5_1 : Int) := od_
    have q326 : x5_1 < (l0.length : Int) := od_
    obtain ⟨ad326, e326, hx326_0, hx326_1, hx326_2, hx326_3, hx326_4⟩ := at_T51 HR0.out x5_1 p326 q326
    have hw326_4 := hx326_4
    have hw326_3 := hx326_3
    have hw326_2 := hx326_2
    have hw326_1 := hx326_1
    have hw326_0 := hx326_0
    obtain rfl : ad325 = ad326 := (by injection e326)
    replace hx326_0 := cb_ HB hx326_0
    replace hx326_1 := cb_ HB hx326_1
    replace hx326_2 := cb_ HB hx326_2
    replace hx326_3 := cb_ HB hx326_3
    replace hx326_4 := cb_ HB hx326_4
    replace p326 := eq_true p326
    replace q326 := eq_true q326
    refine start_ (n := 11) (S := fun w' => w'.cell? (ad325.add (((ji4)).toNat * 5)) = some (.int .i64 ((rd_T51 l0 (ji4)).f0)) ∧ w'.cell? ⟨(ad325.add (((ji4)).toNat * 5)).block, (ad325.add (((ji4)).toNat * 5)).off + 1, none⟩ = some (.int .i64 ((rd_T51 l0 (ji4)).f1.f0)) ∧ w'.cell? ⟨(ad325.add (((ji4)).toNat * 5)).block, (ad325.add (((ji4)).toNat * 5)).off + 2, none⟩ = some (.int .i64 ((rd_T51 l0 (ji4)).f1.f1)) ∧ w'.cell? ⟨(ad325.add (((ji4)).toNat * 5)).block, (ad325.add (((ji4)).toNat * 5)).off + 3, none⟩ = some (.int .i64 ((rd_T51 l0 (ji4)).f2.f0)) ∧ w'.cell? ⟨(ad325.add (((ji4)).toNat * 5)).block, (ad325.add (((ji4)).toNat * 5)).off + 4, none⟩ = some (.int .i64 ((rd_T51 l0 (ji4)).f2.f1)) ∧ w'.cell? (ad325.add ((x5_1).toNat * 5)) = some (.int .i64 ((rd_T51 l0 x5_1).f0)) ∧ w'.cell? ⟨(ad325.add ((x5_1).toNat * 5)).block, (ad325.add ((x5_1).toNat * 5)).off + 1, none⟩ = some (.int .i64 ((rd_T51 l0 x5_1).f1.f0)) ∧ w'.cell? ⟨(ad325.add ((x5_1).toNat * 5)).block, (ad325.add ((x5_1).toNat * 5)).off + 2, none⟩ = some (.int .i64 ((rd_T51 l0 x5_1).f1.f1)) ∧ w'.cell? ⟨(ad325.add ((x5_1).toNat * 5)).block, (ad325.add ((x5_1).toNat * 5)).off + 3, none⟩ = some (.int .i64 ((rd_T51 l0 x5_1).f2.f0)) ∧ w'.cell? ⟨(ad325.add ((x5_1).toNat * 5)).block, (ad325.add ((x5_1).toNat * 5)).off + 4, none⟩ = some (.int .i64 ((rd_T51 l0 x5_1).f2.f1))) (ds := []) #[n_, n_, n_, n_, n_, n_, n_, n_, n_, n_, n_] (by kernel_rfl) rfl rfl ⟨(cb_ HB hw325_0), (cb_ HB hw325_1), (cb_ HB hw325_2), (cb_ HB hw325_3), (cb_ HB hw325_4), (cb_ HB hw326_0), (cb_ HB hw326_1), (cb_ HB hw326_2), (cb_ HB hw326_3), (cb_ HB hw326_4)⟩ (fun hHeld => ?_); refine with_tabW cohousingref05_result.tab6 cohousingref05_result.bits6 (fun HT_ HW_ => ?_)
    generalize wr.drew = w10 at HO_4 HB hx325_0 hx325_1 hx325_2 hx325_3 hx325_4 hx326_0 hx326_1 hx326_2 hx326_3 hx326_4 hHeld ⊢
    refine pu_ 0 18 (w_ 11 1) rfl HT_ ?_
    refine pu_ 1 19 (w_ 11 3) rfl HT_ ?_
    refine pu_ 2 20 (w_ 11 7) rfl HT_ ?_
    refine pu_ 3 21 (w_ 11 15) rfl HT_ ?_
    refine pu_ 5 23 (w_ 11 47) rfl HT_ ?_
    refine pu_ 6 24 (w_ 11 111) rfl HT_ ?_
    refine pu_ 7 25 (w_ 11 239) rfl HT_ ?_
    refine ta_ 4 22 (w_ 11 255) rfl HT_ HW_ hHeld (by rintro w' ⟨s0, s1, s2, s3, s4, s5, s6, s7, s8, s9⟩; go_simp; with_reducible rfl) ?_
    refine ta_ 8 26 (w_ 11 511) rfl HT_ HW_ hHeld (by rintro w' ⟨s0, s1, s2, s3, s4, s5, s6, s7, s8, s9⟩; go_simp; with_reducible rfl) ?_
    refine one_ (i := 9) (N := some 27) (w_ 11 1023) rfl rfl (one_of HT_.out (by kernel_rfl)) (by decide) (fun K hK => ?_)
    refine goes_ Try.func48 (by kernel_rfl) rfl #[.agg #[.int .i64 ((rd_T51 l0 (ji4)).f0), .int .i64 ((rd_T51 l0 (ji4)).f1.f0), .int .i64 ((rd_T51 l0 (ji4)).f1.f1), .int .i64 ((rd_T51 l0 (ji4)).f2.f0), .int .i64 ((rd_T51 l0 (ji4)).f2.f1)], .agg #[.int .i64 ((rd_T51 l0 x5_1).f0), .int .i64 ((rd_T51 l0 x5_1).f1.f0), .int .i64 ((rd_T51 l0 x5_1).f1.f1), .int .i64 ((rd_T51 l0 x5_1).f2.f0), .int .i64 ((rd_T51 l0 x5_1).f2.f1)]] (by rfl) rfl rfl (by (try simp only [List.map_toArray, List.map_cons, List.map_nil]); first | done | (simp only [hji4]; rfl) | rfl | (simp only [List.length_drop, List.length_take]; rfl)) ?_
    with_reducible refine (cohousingref05_continues.calls k1 ((rd_T51 l0 (ji4)).f0) ((rd_T51 l0 (ji4)).f1.f0) ((rd_T51 l0 (ji4)).f1.f1) ((rd_T51 l0 (ji4)).f2.f0) ((rd_T51 l0 (ji4)).f2.f1) ((rd_T51 l0 x5_1).f0) ((rd_T51 l0 x5_1).f1.f0) ((rd_T51 l0 x5_1).f1.f1) ((rd_T51 l0 x5_1).f2.f0) ((rd_T51 l0 x5_1).f2.f1) true _ A8.out).mono ?_
    rintro e w11 ⟨rfl, hb⟩
    refine ⟨_, rfl, ?_⟩
    replace HO_4 := mk_ (Kd.R_below (rr_ HO_4) hb)
    replace HB := mk_ (below_step (bb_ HB) hb)
    (try clear hb)
    refine hK.out _ _ ⟨(cb_ HB hw325_0), (cb_ HB hw325_1), (cb_ HB hw325_2), (cb_ HB hw325_3), (cb_ HB hw325_4), (cb_ HB hw326_0), (cb_ HB hw326_1), (cb_ HB hw326_2), (cb_ HB hw326_3), (cb_ HB hw326_4)⟩ (fun hHeld => ?_)
    clear hK K
    refine norm_ (a' := ?_) ?_ ?_
    rotate_left
    ·show Act.put _ (some 27) _ = _
     simp only [Act.put, sI_, s0_, sS_, i64_w, i32_w]
     rfl
    refine pu_ 10 6 (w_ 11 2047) rfl HT_ ?_
    refine done_ (done_of HT_.out (by kernel_rfl)) ?_
    try go_wp2
    go_roundg k1
    case measure => have := HK1.out; omega
    case rel => exact ⟨(x4_1), (wrap64 (x5_1 + 1)), sd_, H', ⟨by have := HK1.out; omega⟩, ⟨rr_ HO_4⟩, ⟨bb_ HB⟩⟩
   replace c9 := Bool.eq_false_iff.mpr c9
   subst c9
   have H1 : (if x4_1.length < 3518437208883 then (cohousingref05_result.l0 k1 l0 (x4_1 ++ [(⟨(rd_T51 l0 x5_1).f0, (⟨(rd_T51 l0 x5_1).f1.f0, (rd_T51 l0 x5_1).f1.f1⟩ : S24), (⟨(rd_T51 l0 x5_1).f2.f0, (rd_T51 l0 x5_1).f2.f1⟩ : S24)⟩ : S51)]) (wrap64 (x5_1 + 1))) else (none)) = some (r1, r2) := by rw [if_neg (show ¬ (false = true) by decide)] at H; exact H
   clear H
   have H := H1
   clear H1
   by_cases c12 : x4_1.length < 3518437208883
   rotate_left
   ·rw [if_neg c12] at H
    exact absurd H (by simp)
   rw [if_pos c12] at H
   have LMc12 := mk_ c12
   clear c12
   obtain ⟨y329, hy329⟩ : ∃ y_ : List (S51), y_ = (x4_1 ++ [(⟨(rd_T51 l0 x5_1).f0, (⟨(rd_T51 l0 x5_1).f1.f0, (rd_T51 l0 x5_1).f1.f1⟩ : S24), (⟨(rd_T51 l0 x5_1).f2.f0, (rd_T51 l0 x5_1).f2.f1⟩ : S24)⟩ : S51)]) := ⟨_, rfl⟩
   replace H : (cohousingref05_result.l0 k1 l0 y329 (wrap64 (x5_1 + 1))) = some (r1, r2) := by first | (rw [hy329]; with_reducible exact H) | (have H2_ := (Option.bind_some _ _).symm.trans H; rw [hy329]; with_reducible exact H2_) | (have H2_ := (Option.bind_some _ _).symm.trans H; with_reducible exact H2_) | with_reducible exact H | (rw [hy329]; exact H) | exact H
   have Ny329 := mk_ hy329
   clear hy329
   have H' := mk_ H
   clear H
   try go_wp2
   replace HO_4 := mk_ (Kd.R_drew HO_4.out)
   replace HB := mk_ (below_drew1 HB.out)
   have p325 : 0 ≤ ((ji4) : Int) := od_
   have q325 : (ji4) < (l0.length : Int) := od_
   obtain ⟨ad325, e325, hx325_0, hx325_1, hx325_2, hx325_3, hx325_4⟩ := at_T51 HR0.out (ji4) p325 q325
   have hw325_4 := hx325_4
   have hw325_3 := hx325_3
   have hw325_2 := hx325_2
   have hw325_1 := hx325_1
   have hw325_0 := hx325_0
   cases e325
   replace hx325_0 := cb_ HB hx325_0
   replace hx325_1 := cb_ HB hx325_1
   replace hx325_2 := cb_ HB hx325_2
   replace hx325_3 := cb_ HB hx325_3
   replace hx325_4 := cb_ HB hx325_4
   replace p325 := eq_true p325
   replace q325 := eq_true q325
   have p326 : 0 ≤ (x5_1 : Int) := od_
   have q326 : x5_1 < (l0.length : Int) := od_
   obtain ⟨ad326, e326, hx326_0, hx326_1, hx326_2, hx326_3, hx326_4⟩ := at_T51 HR0.out x5_1 p326 q326
   have hw326_4 := hx326_4
   have hw326_3 := hx326_3
   have hw326_2 := hx326_2
   have hw326_1 := hx326_1
   have hw326_0 := hx326_0
   obtain rfl : ad325 = ad326 := (by injection e326)
   replace hx326_0 := cb_ HB hx326_0
   replace hx326_1 := cb_ HB hx326_1
   replace hx326_2 := cb_ HB hx326_2
   replace hx326_3 := cb_ HB hx326_3
   replace hx326_4 := cb_ HB hx326_4
   replace p326 := eq_true p326
   replace q326 := eq_true q326
   refine start_ (n := 11) (S := fun w' => w'.cell? (ad325.add (((ji4)).toNat * 5)) = some (.int .i64 ((rd_T51 l0 (ji4)).f0)) ∧ w'.cell? ⟨(ad325.add (((ji4)).toNat * 5)).block, (ad325.add (((ji4)).toNat * 5)).off + 1, none⟩ = some (.int .i64 ((rd_T51 l0 (ji4)).f1.f0)) ∧ w'.cell? ⟨(ad325.add (((ji4)).toNat * 5)).block, (ad325.add (((ji4)).toNat * 5)).off + 2, none⟩ = some (.int .i64 ((rd_T51 l0 (ji4)).f1.f1)) ∧ w'.cell? ⟨(ad325.add (((ji4)).toNat * 5)).block, (ad325.add (((ji4)).toNat * 5)).off + 3, none⟩ = some (.int .i64 ((rd_T51 l0 (ji4)).f2.f0)) ∧ w'.cell? ⟨(ad325.add (((ji4)).toNat * 5)).block, (ad325.add (((ji4)).toNat * 5)).off + 4, none⟩ = some (.int .i64 ((rd_T51 l0 (ji4)).f2.f1)) ∧ w'.cell? (ad325.add ((x5_1).toNat * 5)) = some (.int .i64 ((rd_T51 l0 x5_1).f0)) ∧ w'.cell? ⟨(ad325.add ((x5_1).toNat * 5)).block, (ad325.add ((x5_1).toNat * 5)).off + 1, none⟩ = some (.int .i64 ((rd_T51 l0 x5_1).f1.f0)) ∧ w'.cell? ⟨(ad325.add ((x5_1).toNat * 5)).block, (ad325.add ((x5_1).toNat * 5)).off + 2, none⟩ = some (.int .i64 ((rd_T51 l0 x5_1).f1.f1)) ∧ w'.cell? ⟨(ad325.add ((x5_1).toNat * 5)).block, (ad325.add ((x5_1).toNat * 5)).off + 3, none⟩ = some (.int .i64 ((rd_T51 l0 x5_1).f2.f0)) ∧ w'.cell? ⟨(ad325.add ((x5_1).toNat * 5)).block, (ad325.add ((x5_1).toNat * 5)).off + 4, none⟩ = some (.int .i64 ((rd_T51 l0 x5_1).f2.f1))) (ds := []) #[n_, n_, n_, n_, n_, n_, n_, n_, n_, n_, n_] (by kernel_rfl) rfl rfl ⟨(cb_ HB hw325_0), (cb_ HB hw325_1), (cb_ HB hw325_2), (cb_ HB hw325_3), (cb_ HB hw325_4), (cb_ HB hw326_0), (cb_ HB hw326_1), (cb_ HB hw326_2), (cb_ HB hw326_3), (cb_ HB hw326_4)⟩ (fun hHeld => ?_); refine with_tabW cohousingref05_result.tab6 cohousingref05_result.bits6 (fun HT_ HW_ => ?_)
   generalize wr.drew = w13 at HO_4 HB hx325_0 hx325_1 hx325_2 hx325_3 hx325_4 hx326_0 hx326_1 hx326_2 hx326_3 hx326_4 hHeld ⊢
   refine pu_ 0 18 (w_ 11 1) rfl HT_ ?_
   refine pu_ 1 19 (w_ 11 3) rfl HT_ ?_
   refine pu_ 2 20 (w_ 11 7) rfl HT_ ?_
   refine pu_ 3 21 (w_ 11 15) rfl HT_ ?_
   refine pu_ 5 23 (w_ 11 47) rfl HT_ ?_
   refine pu_ 6 24 (w_ 11 111) rfl HT_ ?_
   refine pu_ 7 25 (w_ 11 239) rfl HT_ ?_
   refine ta_ 4 22 (w_ 11 255) rfl HT_ HW_ hHeld (by rintro w' ⟨s0, s1, s2, s3, s4, s5, s6, s7, s8, s9⟩; go_simp; with_reducible rfl) ?_
   refine ta_ 8 26 (w_ 11 511) rfl HT_ HW_ hHeld (by rintro w' ⟨s0, s1, s2, s3, s4, s5, s6, s7, s8, s9⟩; go_simp; with_reducible rfl) ?_
   refine one_ (i := 9) (N := some 27) (w_ 11 1023) rfl rfl (one_of HT_.out (by kernel_rfl)) (by decide) (fun K hK => ?_)
   refine goes_ Try.func48 (by kernel_rfl) rfl #[.agg #[.int .i64 ((rd_T51 l0 (ji4)).f0), .int .i64 ((rd_T51 l0 (ji4)).f1.f0), .int .i64 ((rd_T51 l0 (ji4)).f1.f1), .int .i64 ((rd_T51 l0 (ji4)).f2.f0), .int .i64 ((rd_T51 l0 (ji4)).f2.f1)], .agg #[.int .i64 ((rd_T51 l0 x5_1).f0), .int .i64 ((rd_T51 l0 x5_1).f1.f0), .int .i64 ((rd_T51 l0 x5_1).f1.f1), .int .i64 ((rd_T51 l0 x5_1).f2.f0), .int .i64 ((rd_T51 l0 x5_1).f2.f1)]] (by rfl) rfl rfl (by (try simp only [List.map_toArray, List.map_cons, List.map_nil]); first | done | (simp only [hji4]; rfl) | rfl | (simp only [List.length_drop, List.length_take]; rfl)) ?_
   with_reducible refine (cohousingref05_continues.calls k1 ((rd_T51 l0 (ji4)).f0) ((rd_T51 l0 (ji4)).f1.f0) ((rd_T51 l0 (ji4)).f1.f1) ((rd_T51 l0 (ji4)).f2.f0) ((rd_T51 l0 (ji4)).f2.f1) ((rd_T51 l0 x5_1).f0) ((rd_T51 l0 x5_1).f1.f0) ((rd_T51 l0 x5_1).f1.f1) ((rd_T51 l0 x5_1).f2.f0) ((rd_T51 l0 x5_1).f2.f1) false _ A8.out).mono ?_
   rintro e w14 ⟨rfl, hb⟩
   refine ⟨_, rfl, ?_⟩
   replace HO_4 := mk_ (Kd.R_below (rr_ HO_4) hb)
   replace HB := mk_ (below_step (bb_ HB) hb)
   (try clear hb)
   refine hK.out _ _ ⟨(cb_ HB hw325_0), (cb_ HB hw325_1), (cb_ HB hw325_2), (cb_ HB hw325_3), (cb_ HB hw325_4), (cb_ HB hw326_0), (cb_ HB hw326_1), (cb_ HB hw326_2), (cb_ HB hw326_3), (cb_ HB hw326_4)⟩ (fun hHeld => ?_)
   clear hK K
   refine norm_ (a' := ?_) ?_ ?_
   rotate_left
   ·show Act.put _ (some 27) _ = _
    simp only [Act.put, sI_, s0_, sS_, i64_w, i32_w]
    rfl
   refine pu_ 10 6 (w_ 11 2047) rfl HT_ ?_
   refine done_ (done_of HT_.out (by kernel_rfl)) ?_
   have p328 : 0 ≤ (x5_1 : Int) := od_
   have q328 : x5_1 < (l0.length : Int) := od_
   obtain ⟨ad328, e328, hx328_0, hx328_1, hx328_2, hx328_3, hx328_4⟩ := at_T51 HR0.out x5_1 p328 q328
   obtain rfl : ad325 = ad328 := (by injection e328)
   replace hx328_0 := cb_ HB hx328_0
   replace hx328_1 := cb_ HB hx328_1
   replace hx328_2 := cb_ HB hx328_2
   replace hx328_3 := cb_ HB hx328_3
   replace hx328_4 := cb_ HB hx328_4
   replace p328 := eq_true p328
   replace q328 := eq_true q328
   try go_wp2_with (first | ((with_reducible refine gate_builtin (b := .append) (xs := #[.tmp 29, .tmp 34]) rfl ?_); at_builtin; refine Kd.R_append k51 (w0 := w) w.heap.size rfl (.tmp 29) (.tmp 34) 22 51 (.agg #[(.int .i64 0), (.int .i64 0), (.int .i64 0), (.int .i64 0), (.int .i64 0)]) 40 rfl Try.underlying22 info51 rfl (by decide) (by omega) u4 x4_1 (⟨(rd_T51 l0 x5_1).f0, (⟨(rd_T51 l0 x5_1).f1.f0, (rd_T51 l0 x5_1).f1.f1⟩ : S24), (⟨(rd_T51 l0 x5_1).f2.f0, (rd_T51 l0 x5_1).f2.f1⟩ : S24)⟩ : S51) [.int .i64 ((rd_T51 l0 x5_1).f0), .int .i64 ((rd_T51 l0 x5_1).f1.f0), .int .i64 ((rd_T51 l0 x5_1).f1.f1), .int .i64 ((rd_T51 l0 x5_1).f2.f0), .int .i64 ((rd_T51 l0 x5_1).f2.f1)] (fun _ => True) (fun _ => False) rfl rfl ?aP (fun _ hk => hk.elim) ?aF ?aO ?aB ?aS ?aL ?_; (case aP => exact k51_mkM _ _ _ (⟨(rd_T51 l0 x5_1).f0, (⟨(rd_T51 l0 x5_1).f1.f0, (rd_T51 l0 x5_1).f1.f1⟩ : S24), (⟨(rd_T51 l0 x5_1).f2.f0, (rd_T51 l0 x5_1).f2.f1⟩ : S24)⟩ : S51)); (case aB => exact (bb_ HB)); (case aF => exact (fun _ _ => trivial)); (case aO => exact (rr_ HO_4)); (case aS => exact (below_size (bb_ HB))); (case aL => have := LMc12.out; omega); intro v330 w15 ho hb hg hat; rw [← Ny329.out] at ho; have n0_ := mk_ (hb); have n1_ := mk_ (ho); clear HB HO_4; revert n0_ n1_; intro HB HO331; clear ho hb hg hat))
   go_roundg k1
   case measure => have := HK1.out; omega
   case rel => exact ⟨(y329), (wrap64 (x5_1 + 1)), sd_, H', ⟨by have := HK1.out; omega⟩, ⟨rr_ HO331⟩, ⟨bb_ HB⟩⟩
end
end Go.Proofs.Ytmhimmodigeeiaa.P
end
