/- Part 9 of the base that the seat's proofs share: words, walks and plain laws. -/
import Derived.Test.YtocbiggglnpeoaaCMh
set_option linter.unusedVariables false
set_option linter.unusedSimpArgs false
section
namespace Go.Proofs.Ytocbiggglnpeoaa.M
open Go.RowKit Go.Proofs.YtocbiggglnpeoaaW.PrintWords Go.Proofs.YtocbiggglnpeoaaW.PrintLast Go.Proofs.YtocbiggglnpeoaaW.PrintMore
attribute [local go_sem] max2_int min2_int max_two min_two max_three min_three max_four min_four
set_option linter.unusedVariables false
set_option linter.unusedSimpArgs false
def cohousingref26_Replies.l0 : Nat → List (S55) → Int → Option (Bool)
 | 0, _, _ => none
 | k + 1, x0, x3 => if x3 < (x0.length : Int) then (if 0 ≤ x3 then (if ((rd_T55 x0 x3).f0) < 1 then (some false) else (if ((rd_T55 x0 x3).f0) > 3 then (some false) else (if ((rd_T55 x0 x3).f1) < 1 then (some false) else (if ((rd_T55 x0 x3).f1) > 64 then (some false) else (if ((rd_T55 x0 x3).f2) < 0 then (some false) else (if ((rd_T55 x0 x3).f2) > 36524 then (some false) else (if x3 > 0 then (if 0 ≤ (wrap64 (x3 - 1)) then (if (wrap64 (x3 - 1)) < (x0.length : Int) then (if ((rd_T55 x0 x3).f2) < ((rd_T55 x0 (wrap64 (x3 - 1))).f2) then (some false) else (cohousingref26_Replies.l0 k x0 (wrap64 (x3 + 1)))) else (none)) else (none)) else (cohousingref26_Replies.l0 k x0 (wrap64 (x3 + 1)))))))))) else (none)) else (some true)
def cohousingref26_Replies.f (k : Nat) (l0 : List (S55)) : Option (Bool) := if (l0.length : Int) > 1000 then (some false) else (cohousingref26_Replies.l0 k l0 0)
set_option maxHeartbeats 8000000 in
set_option maxRecDepth 100000 in
theorem cohousingref26_Replies.calls (k : Nat) (A0 : Option Addr) (c0 : Nat) (l0 : List (S55)) (r : Bool) (w : World) (hr0 : Kd.C k55 w A0 l0.length l0) (hc0 : l0.length ≤ c0) (h : cohousingref26_Replies.f k l0 = some r) :
  Calls Try.prog 36 #[.slice A0 l0.length c0] w fun e w' => e = .returned (.bool r) ∧ Below w.heap.size w w' := by
 have hu55 := Try.underlying55
 have HR0 := mk_ hr0
 have HC0 := mk_ hc0
 clear hr0 hc0
 have HB := mk_ (Below.refl w.heap.size w)
 have H : (if (l0.length : Int) > 1000 then (some false) else (cohousingref26_Replies.l0 k l0 0)) = some r := h
 clear h
 by_cases c2 : (l0.length : Int) > 1000
 ·rw [if_pos c2] at H
  have c2b0 : decide (1000 < (l0.length : Int)) = true := decide_eq_true c2
  have c2b1 : decide (1000 < l0.length) = true := decide_eq_true (by omega)
  clear c2
  obtain rfl := Option.some.inj H
  go_enter Try.func36, Try.ntmps36
  go_wp2
  repeat (go_quiet (fail); try go_wp2)
  go_ret
  exact ⟨ew_, bb_ HB⟩
 rw [if_neg c2] at H
 have c2b0 : decide (1000 < (l0.length : Int)) = false := decide_eq_false c2
 have c2b1 : decide (1000 < l0.length) = false := decide_eq_false (by omega)
 clear c2
 have H' := mk_ H
 clear H
 go_enter Try.func36, Try.ntmps36
 go_wp2
 repeat (go_quiet (fail); try go_wp2)
 go_loopg [3] k (fun kq v3 w' => ∃ (x3_1 : Int), v3 = .int .i64 x3_1 ∧ Aside0 (cohousingref26_Replies.l0 kq l0 x3_1 = some r) ∧ Aside0 (kq ≤ k) ∧ Aside0 (Below w.heap.size w w'))
 case atStart => exact ⟨(0), sd_, H', ⟨Nat.le_refl _⟩, ⟨bb_ HB⟩⟩
 case round =>
  clear H'
  try clear c2; try clear c2b0; try clear c2b1; try clear p2
  obtain ⟨x3_1, rfl, HA, HK1, HB⟩ := hrel
  cases gk with
  | zero => exact absurd HA.out (by simp [cohousingref26_Replies.l0])
  | succ k1 =>
   have H := HA.out
   clear HA
   simp only [cohousingref26_Replies.l0] at H
   by_cases c3 : x3_1 < (l0.length : Int)
   rotate_left
   ·rw [if_neg c3] at H
    have c3b0 : decide (x3_1 < (l0.length : Int)) = false := decide_eq_false c3
    clear c3
    obtain rfl := Option.some.inj H
    go_wp2
    repeat (go_quiet (fail); try go_wp2)
    go_ret
    exact ⟨ew_, bb_ HB⟩
   rw [if_pos c3] at H
   have c3b0 : decide (x3_1 < (l0.length : Int)) = true := decide_eq_true c3
   clear c3
   by_cases c4 : 0 ≤ x3_1
   rotate_left
   ·rw [if_neg c4] at H
    exact absurd H (by simp)
   rw [if_pos c4] at H
   have c4b0 : decide (0 ≤ x3_1) = true := decide_eq_true c4
   clear c4
   by_cases c5 : ((rd_T55 l0 x3_1).f0) < 1
   ·rw [if_pos c5] at H
    have c5b0 : decide (((rd_T55 l0 x3_1).f0) < 1) = true := decide_eq_true c5
    clear c5
    obtain rfl := Option.some.inj H
    have p258 : 0 ≤ (x3_1 : Int) := od_
    have q258 : x3_1 < (l0.length : Int) := od_
    obtain ⟨ad258, e258, hx258_0, hx258_1, hx258_2⟩ := at_T55 HR0.out x3_1 p258 q258
    cases e258
    replace hx258_0 := cb_ HB hx258_0
    replace hx258_1 := cb_ HB hx258_1
    replace hx258_2 := cb_ HB hx258_2
    replace p258 := eq_true p258
    replace q258 := eq_true q258
    go_wp2_with (first | ((with_reducible refine gate_dst (N := 4) rfl ?_); refine box_event ?hg (N := 4) ?hd (cs := #[.int .i64 0, .int .i64 0, .int .i64 0]) (t := 55) ?hr ?_; (case hd => rfl); (case hg => rfl); (case hr => first | (go_simp; done) | (go_simp; rfl)); intro gb259 hg w6 hbox hb; have n0_ := mk_ (below_step (bb_ HB) hb); have n1_ := mk_ (hbox); have n2_ := mk_ (bz_ hg (bb_ HB)); have n3_ := mk_ (bz_ hg (bb_ HB)); clear HB; revert n0_ n1_ n2_ n3_; intro HB BK259 GW259 GE259; clear hb hbox hg; have hcz7_0 := bc0_ BK259.out; have hcz7_1 := bc1_ BK259.out; have hcz7_2 := bc2_ BK259.out; have hfz7_0 := blk_frozen BK259.out 0; have hfz7_1 := blk_frozen BK259.out 1; have hfz7_2 := blk_frozen BK259.out 2))
    repeat (go_quiet (first | fail); try go_wp2_with (first | fail))
    go_ret
    exact ⟨ew_, bs1_ HB GE259⟩
   rw [if_neg c5] at H
   have c5b0 : decide (((rd_T55 l0 x3_1).f0) < 1) = false := decide_eq_false c5
   clear c5
   by_cases c8 : ((rd_T55 l0 x3_1).f0) > 3
   ·rw [if_pos c8] at H
    have c8b0 : decide (3 < ((rd_T55 l0 x3_1).f0)) = true := decide_eq_true c8
    clear c8
    obtain rfl := Option.some.inj H
    have p258 : 0 ≤ (x3_1 : Int) := od_
    have q258 : x3_1 < (l0.length : Int) := od_
    obtain ⟨ad258, e258, hx258_0, hx258_1, hx258_2⟩ := at_T55 HR0.out x3_1 p258 q258
    cases e258
    replace hx258_0 := cb_ HB hx258_0
    replace hx258_1 := cb_ HB hx258_1
    replace hx258_2 := cb_ HB hx258_2
    replace p258 := eq_true p258
    replace q258 := eq_true q258
    go_wp2_with (first | ((with_reducible refine gate_dst (N := 4) rfl ?_); refine box_event ?hg (N := 4) ?hd (cs := #[.int .i64 0, .int .i64 0, .int .i64 0]) (t := 55) ?hr ?_; (case hd => rfl); (case hg => rfl); (case hr => first | (go_simp; done) | (go_simp; rfl)); intro gb259 hg w9 hbox hb; have n0_ := mk_ (below_step (bb_ HB) hb); have n1_ := mk_ (hbox); have n2_ := mk_ (bz_ hg (bb_ HB)); have n3_ := mk_ (bz_ hg (bb_ HB)); clear HB; revert n0_ n1_ n2_ n3_; intro HB BK259 GW259 GE259; clear hb hbox hg; have hcz10_0 := bc0_ BK259.out; have hcz10_1 := bc1_ BK259.out; have hcz10_2 := bc2_ BK259.out; have hfz10_0 := blk_frozen BK259.out 0; have hfz10_1 := blk_frozen BK259.out 1; have hfz10_2 := blk_frozen BK259.out 2))
    repeat (go_quiet (first | fail); try go_wp2_with (first | fail))
    go_ret
    exact ⟨ew_, bs1_ HB GE259⟩
   rw [if_neg c8] at H
   have c8b0 : decide (3 < ((rd_T55 l0 x3_1).f0)) = false := decide_eq_false c8
   clear c8
   by_cases c11 : ((rd_T55 l0 x3_1).f1) < 1
   ·rw [if_pos c11] at H
    have c11b0 : decide (((rd_T55 l0 x3_1).f1) < 1) = true := decide_eq_true c11
    clear c11
    obtain rfl := Option.some.inj H
    have p258 : 0 ≤ (x3_1 : Int) := od_
    have q258 : x3_1 < (l0.length : Int) := od_
    obtain ⟨ad258, e258, hx258_0, hx258_1, hx258_2⟩ := at_T55 HR0.out x3_1 p258 q258
    cases e258
    replace hx258_0 := cb_ HB hx258_0
    replace hx258_1 := cb_ HB hx258_1
    replace hx258_2 := cb_ HB hx258_2
    replace p258 := eq_true p258
    replace q258 := eq_true q258
    go_wp2_with (first | ((with_reducible refine gate_dst (N := 4) rfl ?_); refine box_event ?hg (N := 4) ?hd (cs := #[.int .i64 0, .int .i64 0, .int .i64 0]) (t := 55) ?hr ?_; (case hd => rfl); (case hg => rfl); (case hr => first | (go_simp; done) | (go_simp; rfl)); intro gb259 hg w12 hbox hb; have n0_ := mk_ (below_step (bb_ HB) hb); have n1_ := mk_ (hbox); have n2_ := mk_ (bz_ hg (bb_ HB)); have n3_ := mk_ (bz_ hg (bb_ HB)); clear HB; revert n0_ n1_ n2_ n3_; intro HB BK259 GW259 GE259; clear hb hbox hg; have hcz13_0 := bc0_ BK259.out; have hcz13_1 := bc1_ BK259.out; have hcz13_2 := bc2_ BK259.out; have hfz13_0 := blk_frozen BK259.out 0; have hfz13_1 := blk_frozen BK259.out 1; have hfz13_2 := blk_frozen BK259.out 2))
    repeat (go_quiet (first | fail); try go_wp2_with (first | fail))
    go_ret
    exact ⟨ew_, bs1_ HB GE259⟩
   rw [if_neg c11] at H
   have c11b0 : decide (((rd_T55 l0 x3_1).f1) < 1) = false := decide_eq_false c11
   clear c11
   by_cases c14 : ((rd_T55 l0 x3_1).f1) > 64
   ·rw [if_pos c14] at H
    have c14b0 : decide (64 < ((rd_T55 l0 x3_1).f1)) = true := decide_eq_true c14
    clear c14
    obtain rfl := Option.some.inj H
    have p258 : 0 ≤ (x3_1 : Int) := od_
    have q258 : x3_1 < (l0.length : Int) := od_
    obtain ⟨ad258, e258, hx258_0, hx258_1, hx258_2⟩ := at_T55 HR0.out x3_1 p258 q258
    cases e258
    replace hx258_0 := cb_ HB hx258_0
    replace hx258_1 := cb_ HB hx258_1
    replace hx258_2 := cb_ HB hx258_2
    replace p258 := eq_true p258
    replace q258 := eq_true q258
    go_wp2_with (first | ((with_reducible refine gate_dst (N := 4) rfl ?_); refine box_event ?hg (N := 4) ?hd (cs := #[.int .i64 0, .int .i64 0, .int .i64 0]) (t := 55) ?hr ?_; (case hd => rfl); (case hg => rfl); (case hr => first | (go_simp; done) | (go_simp; rfl)); intro gb259 hg w15 hbox hb; have n0_ := mk_ (below_step (bb_ HB) hb); have n1_ := mk_ (hbox); have n2_ := mk_ (bz_ hg (bb_ HB)); have n3_ := mk_ (bz_ hg (bb_ HB)); clear HB; revert n0_ n1_ n2_ n3_; intro HB BK259 GW259 GE259; clear hb hbox hg; have hcz16_0 := bc0_ BK259.out; have hcz16_1 := bc1_ BK259.out; have hcz16_2 := bc2_ BK259.out; have hfz16_0 := blk_frozen BK259.out 0; have hfz16_1 := blk_frozen BK259.out 1; have hfz16_2 := blk_frozen BK259.out 2))
    repeat (go_quiet (first | fail); try go_wp2_with (first | fail))
    go_ret
    exact ⟨ew_, bs1_ HB GE259⟩
   rw [if_neg c14] at H
   have c14b0 : decide (64 < ((rd_T55 l0 x3_1).f1)) = false := decide_eq_false c14
   clear c14
   by_cases c17 : ((rd_T55 l0 x3_1).f2) < 0
   ·rw [if_pos c17] at H
    have c17b0 : decide (((rd_T55 l0 x3_1).f2) < 0) = true := decide_eq_true c17
    clear c17
    obtain rfl := Option.some.inj H
    have p258 : 0 ≤ (x3_1 : Int) := od_
    have q258 : x3_1 < (l0.length : Int) := od_
    obtain ⟨ad258, e258, hx258_0, hx258_1, hx258_2⟩ := at_T55 HR0.out x3_1 p258 q258
    cases e258
    replace hx258_0 := cb_ HB hx258_0
    replace hx258_1 := cb_ HB hx258_1
    replace hx258_2 := cb_ HB hx258_2
    replace p258 := eq_true p258
    replace q258 := eq_true q258
    go_wp2_with (first | ((with_reducible refine gate_dst (N := 4) rfl ?_); refine box_event ?hg (N := 4) ?hd (cs := #[.int .i64 0, .int .i64 0, .int .i64 0]) (t := 55) ?hr ?_; (case hd => rfl); (case hg => rfl); (case hr => first | (go_simp; done) | (go_simp; rfl)); intro gb259 hg w18 hbox hb; have n0_ := mk_ (below_step (bb_ HB) hb); have n1_ := mk_ (hbox); have n2_ := mk_ (bz_ hg (bb_ HB)); have n3_ := mk_ (bz_ hg (bb_ HB)); clear HB; revert n0_ n1_ n2_ n3_; intro HB BK259 GW259 GE259; clear hb hbox hg; have hcz19_0 := bc0_ BK259.out; have hcz19_1 := bc1_ BK259.out; have hcz19_2 := bc2_ BK259.out; have hfz19_0 := blk_frozen BK259.out 0; have hfz19_1 := blk_frozen BK259.out 1; have hfz19_2 := blk_frozen BK259.out 2))
    repeat (go_quiet (first | fail); try go_wp2_with (first | fail))
    go_ret
    exact ⟨ew_, bs1_ HB GE259⟩
   rw [if_neg c17] at H
   have c17b0 : decide (((rd_T55 l0 x3_1).f2) < 0) = false := decide_eq_false c17
   clear c17
   by_cases c20 : ((rd_T55 l0 x3_1).f2) > 36524
   ·rw [if_pos c20] at H
    have c20b0 : decide (36524 < ((rd_T55 l0 x3_1).f2)) = true := decide_eq_true c20
    clear c20
    obtain rfl := Option.some.inj H
    have p258 : 0 ≤ (x3_1 : Int) := od_
    have q258 : x3_1 < (l0.length : Int) := od_
    obtain ⟨ad258, e258, hx258_0, hx258_1, hx258_2⟩ := at_T55 HR0.out x3_1 p258 q258
    cases e258
    replace hx258_0 := cb_ HB hx258_0
    replace hx258_1 := cb_ HB hx258_1
    replace hx258_2 := cb_ HB hx258_2
    replace p258 := eq_true p258
    replace q258 := eq_true q258
    go_wp2_with (first | ((with_reducible refine gate_dst (N := 4) rfl ?_); refine box_event ?hg (N := 4) ?hd (cs := #[.int .i64 0, .int .i64 0, .int .i64 0]) (t := 55) ?hr ?_; (case hd => rfl); (case hg => rfl); (case hr => first | (go_simp; done) | (go_simp; rfl)); intro gb259 hg w21 hbox hb; have n0_ := mk_ (below_step (bb_ HB) hb); have n1_ := mk_ (hbox); have n2_ := mk_ (bz_ hg (bb_ HB)); have n3_ := mk_ (bz_ hg (bb_ HB)); clear HB; revert n0_ n1_ n2_ n3_; intro HB BK259 GW259 GE259; clear hb hbox hg; have hcz22_0 := bc0_ BK259.out; have hcz22_1 := bc1_ BK259.out; have hcz22_2 := bc2_ BK259.out; have hfz22_0 := blk_frozen BK259.out 0; have hfz22_1 := blk_frozen BK259.out 1; have hfz22_2 := blk_frozen BK259.out 2))
    repeat (go_quiet (first | fail); try go_wp2_with (first | fail))
    go_ret
    exact ⟨ew_, bs1_ HB GE259⟩
   rw [if_neg c20] at H
   have c20b0 : decide (36524 < ((rd_T55 l0 x3_1).f2)) = false := decide_eq_false c20
   clear c20
   by_cases c23 : x3_1 > 0
   rotate_left
   ·rw [if_neg c23] at H
    have c23b0 : decide (0 < x3_1) = false := decide_eq_false c23
    clear c23
    have H' := mk_ H
    clear H
    have p258 : 0 ≤ (x3_1 : Int) := od_
    have q258 : x3_1 < (l0.length : Int) := od_
    obtain ⟨ad258, e258, hx258_0, hx258_1, hx258_2⟩ := at_T55 HR0.out x3_1 p258 q258
    cases e258
    replace hx258_0 := cb_ HB hx258_0
    replace hx258_1 := cb_ HB hx258_1
    replace hx258_2 := cb_ HB hx258_2
    replace p258 := eq_true p258
    replace q258 := eq_true q258
    go_wp2_with (first | ((with_reducible refine gate_dst (N := 4) rfl ?_); refine box_event ?hg (N := 4) ?hd (cs := #[.int .i64 0, .int .i64 0, .int .i64 0]) (t := 55) ?hr ?_; (case hd => rfl); (case hg => rfl); (case hr => first | (go_simp; done) | (go_simp; rfl)); intro gb259 hg w32 hbox hb; have n0_ := mk_ (below_step (bb_ HB) hb); have n1_ := mk_ (hbox); have n2_ := mk_ (bz_ hg (bb_ HB)); have n3_ := mk_ (bz_ hg (bb_ HB)); clear HB; revert n0_ n1_ n2_ n3_; intro HB BK259 GW259 GE259; clear hb hbox hg; have hcz33_0 := bc0_ BK259.out; have hcz33_1 := bc1_ BK259.out; have hcz33_2 := bc2_ BK259.out; have hfz33_0 := blk_frozen BK259.out 0; have hfz33_1 := blk_frozen BK259.out 1; have hfz33_2 := blk_frozen BK259.out 2))
    repeat (go_quiet (first | fail); try go_wp2_with (first | fail))
    go_roundg k1
    case measure => have := HK1.out; omega
    case rel => exact ⟨(wrap64 (x3_1 + 1)), sd_, H', ⟨by have := HK1.out; omega⟩, ⟨bs1_ HB GE259⟩⟩
   rw [if_pos c23] at H
   have c23b0 : decide (0 < x3_1) = true := decide_eq_true c23
   clear c23
   obtain ⟨ji24, hji24⟩ : ∃ j_ : Int, (wrap64 (x3_1 - 1)) = j_ := ⟨_, rfl⟩
   replace H : (if 0 ≤ (ji24) then (if (ji24) < (l0.length : Int) then (if ((rd_T55 l0 x3_1).f2) < ((rd_T55 l0 (ji24)).f2) then (some false) else (cohousingref26_Replies.l0 k1 l0 (wrap64 (x3_1 + 1)))) else (none)) else (none)) = some r := by first | (rw [hji24] at H; exact H) | (simp only [hji24] at H ⊢; exact H)
   have hji24w : (IntKind.i64.wrap (x3_1 - 1)) = ji24 := (i64_w _).trans hji24
   by_cases c25 : 0 ≤ (ji24)
   rotate_left
   ·rw [if_neg c25] at H
    exact absurd H (by simp)
   rw [if_pos c25] at H
   have c25b0 : decide (0 ≤ (ji24)) = true := decide_eq_true c25
   clear c25
   by_cases c26 : (ji24) < (l0.length : Int)
   rotate_left
   ·rw [if_neg c26] at H
    exact absurd H (by simp)
   rw [if_pos c26] at H
   have c26b0 : decide ((ji24) < (l0.length : Int)) = true := decide_eq_true c26
   clear c26
   by_cases c27 : ((rd_T55 l0 x3_1).f2) < ((rd_T55 l0 (ji24)).f2)
   ·rw [if_pos c27] at H
    have c27b0 : decide (((rd_T55 l0 x3_1).f2) < ((rd_T55 l0 (ji24)).f2)) = true := decide_eq_true c27
    clear c27
    obtain rfl := Option.some.inj H
    have p258 : 0 ≤ (x3_1 : Int) := od_
    have q258 : x3_1 < (l0.length : Int) := od_
    obtain ⟨ad258, e258, hx258_0, hx258_1, hx258_2⟩ := at_T55 HR0.out x3_1 p258 q258
    cases e258
    replace hx258_0 := cb_ HB hx258_0
    replace hx258_1 := cb_ HB hx258_1
    replace hx258_2 := cb_ HB hx258_2
    replace p258 := eq_true p258
    replace q258 := eq_true q258
    go_wp2_with (first | ((with_reducible refine gate_dst (N := 4) rfl ?_); refine box_event ?hg (N := 4) ?hd (cs := #[.int .i64 0, .int .i64 0, .int .i64 0]) (t := 55) ?hr ?_; (case hd => rfl); (case hg => rfl); (case hr => first | (go_simp; done) | (go_simp; rfl)); intro gb259 hg w28 hbox hb; have n0_ := mk_ (below_step (bb_ HB) hb); have n1_ := mk_ (hbox); have n2_ := mk_ (bz_ hg (bb_ HB)); have n3_ := mk_ (bz_ hg (bb_ HB)); clear HB; revert n0_ n1_ n2_ n3_; intro HB BK259 GW259 GE259; clear hb hbox hg; have hcz29_0 := bc0_ BK259.out; have hcz29_1 := bc1_ BK259.out; have hcz29_2 := bc2_ BK259.out; have hfz29_0 := blk_frozen BK259.out 0; have hfz29_1 := blk_frozen BK259.out 1; have hfz29_2 := blk_frozen BK259.out 2; have p260 : 0 ≤ ((ji24) : Int) := od_; have q260 : (ji24) < (l0.length : Int) := od_; obtain ⟨ad260, e260, hx260_0, hx260_1, hx260_2⟩ := at_T55 HR0.out (ji24) p260 q260; obtain rfl : ad258 = ad260 := (by injection e260); have hn260_0 : ad258.block ≠ gb259 := Nat.ne_of_lt (Nat.lt_of_lt_of_le (by have := World.block_lt_of_cell? _ _ hx260_0; first | rwa [add_block] at this | exact this) GW259.out); have hn260_1 : ad258.block ≠ gb259 := Nat.ne_of_lt (Nat.lt_of_lt_of_le (by have := World.block_lt_of_cell? _ _ hx260_0; first | rwa [add_block] at this | exact this) GW259.out); have hn260_2 : ad258.block ≠ gb259 := Nat.ne_of_lt (Nat.lt_of_lt_of_le (by have := World.block_lt_of_cell? _ _ hx260_0; first | rwa [add_block] at this | exact this) GW259.out); replace hx260_0 := cb_ HB hx260_0; replace hx260_1 := cb_ HB hx260_1; replace hx260_2 := cb_ HB hx260_2; replace hx260_0 := (cell_far (p := ⟨gb259, 0, none⟩) (by first | (rw [add_block]; exact hn260_0) | (show (Addr.add _ _).block ≠ _; rw [add_block]; exact hn260_0) | exact hn260_0) (.int .i64 ((rd_T55 l0 x3_1).f0))).trans hx260_0; replace hx260_1 := (cell_far (p := ⟨gb259, 0, none⟩) (by first | (rw [add_block]; exact hn260_0) | (show (Addr.add _ _).block ≠ _; rw [add_block]; exact hn260_0) | exact hn260_0) (.int .i64 ((rd_T55 l0 x3_1).f0))).trans hx260_1; replace hx260_2 := (cell_far (p := ⟨gb259, 0, none⟩) (by first | (rw [add_block]; exact hn260_0) | (show (Addr.add _ _).block ≠ _; rw [add_block]; exact hn260_0) | exact hn260_0) (.int .i64 ((rd_T55 l0 x3_1).f0))).trans hx260_2; replace hx260_0 := (cell_far (p := ⟨gb259, 1, none⟩) (by first | (rw [add_block]; exact hn260_1) | (show (Addr.add _ _).block ≠ _; rw [add_block]; exact hn260_1) | exact hn260_1) (.int .i64 ((rd_T55 l0 x3_1).f1))).trans hx260_0; replace hx260_1 := (cell_far (p := ⟨gb259, 1, none⟩) (by first | (rw [add_block]; exact hn260_1) | (show (Addr.add _ _).block ≠ _; rw [add_block]; exact hn260_1) | exact hn260_1) (.int .i64 ((rd_T55 l0 x3_1).f1))).trans hx260_1; replace hx260_2 := (cell_far (p := ⟨gb259, 1, none⟩) (by first | (rw [add_block]; exact hn260_1) | (show (Addr.add _ _).block ≠ _; rw [add_block]; exact hn260_1) | exact hn260_1) (.int .i64 ((rd_T55 l0 x3_1).f1))).trans hx260_2; replace hx260_0 := (cell_far (p := ⟨gb259, 2, none⟩) (by first | (rw [add_block]; exact hn260_2) | (show (Addr.add _ _).block ≠ _; rw [add_block]; exact hn260_2) | exact hn260_2) (.int .i64 ((rd_T55 l0 x3_1).f2))).trans hx260_0; replace hx260_1 := (cell_far (p := ⟨gb259, 2, none⟩) (by first | (rw [add_block]; exact hn260_2) | (show (Addr.add _ _).block ≠ _; rw [add_block]; exact hn260_2) | exact hn260_2) (.int .i64 ((rd_T55 l0 x3_1).f2))).trans hx260_1; replace hx260_2 := (cell_far (p := ⟨gb259, 2, none⟩) (by first | (rw [add_block]; exact hn260_2) | (show (Addr.add _ _).block ≠ _; rw [add_block]; exact hn260_2) | exact hn260_2) (.int .i64 ((rd_T55 l0 x3_1).f2))).trans hx260_2; (try have hy260_0 := fun (n_ : Nat) => (show (((((w28.drewN n_).setCell ⟨gb259, 0, none⟩ (.int .i64 ((rd_T55 l0 x3_1).f0))).setCell ⟨gb259, 1, none⟩ (.int .i64 ((rd_T55 l0 x3_1).f1))).setCell ⟨gb259, 2, none⟩ (.int .i64 ((rd_T55 l0 x3_1).f2)))).cell? _ = some _ from hx260_0)); (try have hy260_1 := fun (n_ : Nat) => (show (((((w28.drewN n_).setCell ⟨gb259, 0, none⟩ (.int .i64 ((rd_T55 l0 x3_1).f0))).setCell ⟨gb259, 1, none⟩ (.int .i64 ((rd_T55 l0 x3_1).f1))).setCell ⟨gb259, 2, none⟩ (.int .i64 ((rd_T55 l0 x3_1).f2)))).cell? _ = some _ from hx260_1)); (try have hy260_2 := fun (n_ : Nat) => (show (((((w28.drewN n_).setCell ⟨gb259, 0, none⟩ (.int .i64 ((rd_T55 l0 x3_1).f0))).setCell ⟨gb259, 1, none⟩ (.int .i64 ((rd_T55 l0 x3_1).f1))).setCell ⟨gb259, 2, none⟩ (.int .i64 ((rd_T55 l0 x3_1).f2)))).cell? _ = some _ from hx260_2)); clear hn260_0; clear hn260_1; clear hn260_2; replace p260 := eq_true p260; replace q260 := eq_true q260))
    repeat (go_quiet (first | fail); try go_wp2_with (first | fail))
    go_ret
    exact ⟨by first | rfl | (simp [errW_none, errW_some] <;> rfl) | (simp only [← hji24]; first | rfl | (simp [errW_none, errW_some] <;> rfl)) | (simp [*, errW_none, errW_some] <;> rfl), bs1_ HB GE259⟩
   rw [if_neg c27] at H
   have c27b0 : decide (((rd_T55 l0 x3_1).f2) < ((rd_T55 l0 (ji24)).f2)) = false := decide_eq_false c27
   clear c27
   have H' := mk_ H
   clear H
   have p258 : 0 ≤ (x3_1 : Int) := od_
   have q258 : x3_1 < (l0.length : Int) := od_
   obtain ⟨ad258, e258, hx258_0, hx258_1, hx258_2⟩ := at_T55 HR0.out x3_1 p258 q258
   cases e258
   replace hx258_0 := cb_ HB hx258_0
   replace hx258_1 := cb_ HB hx258_1
   replace hx258_2 := cb_ HB hx258_2
   replace p258 := eq_true p258
   replace q258 := eq_true q258
   go_wp2_with (first | ((with_reducible refine gate_dst (N := 4) rfl ?_); refine box_event ?hg (N := 4) ?hd (cs := #[.int .i64 0, .int .i64 0, .int .i64 0]) (t := 55) ?hr ?_; (case hd => rfl); (case hg => rfl); (case hr => first | (go_simp; done) | (go_simp; rfl)); intro gb259 hg w30 hbox hb; have n0_ := mk_ (below_step (bb_ HB) hb); have n1_ := mk_ (hbox); have n2_ := mk_ (bz_ hg (bb_ HB)); have n3_ := mk_ (bz_ hg (bb_ HB)); clear HB; revert n0_ n1_ n2_ n3_; intro HB BK259 GW259 GE259; clear hb hbox hg; have hcz31_0 := bc0_ BK259.out; have hcz31_1 := bc1_ BK259.out; have hcz31_2 := bc2_ BK259.out; have hfz31_0 := blk_frozen BK259.out 0; have hfz31_1 := blk_frozen BK259.out 1; have hfz31_2 := blk_frozen BK259.out 2; have p260 : 0 ≤ ((ji24) : Int) := od_; have q260 : (ji24) < (l0.length : Int) := od_; obtain ⟨ad260, e260, hx260_0, hx260_1, hx260_2⟩ := at_T55 HR0.out (ji24) p260 q260; obtain rfl : ad258 = ad260 := (by injection e260); have hn260_0 : ad258.block ≠ gb259 := Nat.ne_of_lt (Nat.lt_of_lt_of_le (by have := World.block_lt_of_cell? _ _ hx260_0; first | rwa [add_block] at this | exact this) GW259.out); have hn260_1 : ad258.block ≠ gb259 := Nat.ne_of_lt (Nat.lt_of_lt_of_le (by have := World.block_lt_of_cell? _ _ hx260_0; first | rwa [add_block] at this | exact this) GW259.out); have hn260_2 : ad258.block ≠ gb259 := Nat.ne_of_lt (Nat.lt_of_lt_of_le (by have := World.block_lt_of_cell? _ _ hx260_0; first | rwa [add_block] at this | exact this) GW259.out); replace hx260_0 := cb_ HB hx260_0; replace hx260_1 := cb_ HB hx260_1; replace hx260_2 := cb_ HB hx260_2; replace hx260_0 := (cell_far (p := ⟨gb259, 0, none⟩) (by first | (rw [add_block]; exact hn260_0) | (show (Addr.add _ _).block ≠ _; rw [add_block]; exact hn260_0) | exact hn260_0) (.int .i64 ((rd_T55 l0 x3_1).f0))).trans hx260_0; replace hx260_1 := (cell_far (p := ⟨gb259, 0, none⟩) (by first | (rw [add_block]; exact hn260_0) | (show (Addr.add _ _).block ≠ _; rw [add_block]; exact hn260_0) | exact hn260_0) (.int .i64 ((rd_T55 l0 x3_1).f0))).trans hx260_1; replace hx260_2 := (cell_far (p := ⟨gb259, 0, none⟩) (by first | (rw [add_block]; exact hn260_0) | (show (Addr.add _ _).block ≠ _; rw [add_block]; exact hn260_0) | exact hn260_0) (.int .i64 ((rd_T55 l0 x3_1).f0))).trans hx260_2; replace hx260_0 := (cell_far (p := ⟨gb259, 1, none⟩) (by first | (rw [add_block]; exact hn260_1) | (show (Addr.add _ _).block ≠ _; rw [add_block]; exact hn260_1) | exact hn260_1) (.int .i64 ((rd_T55 l0 x3_1).f1))).trans hx260_0; replace hx260_1 := (cell_far (p := ⟨gb259, 1, none⟩) (by first | (rw [add_block]; exact hn260_1) | (show (Addr.add _ _).block ≠ _; rw [add_block]; exact hn260_1) | exact hn260_1) (.int .i64 ((rd_T55 l0 x3_1).f1))).trans hx260_1; replace hx260_2 := (cell_far (p := ⟨gb259, 1, none⟩) (by first | (rw [add_block]; exact hn260_1) | (show (Addr.add _ _).block ≠ _; rw [add_block]; exact hn260_1) | exact hn260_1) (.int .i64 ((rd_T55 l0 x3_1).f1))).trans hx260_2; replace hx260_0 := (cell_far (p := ⟨gb259, 2, none⟩) (by first | (rw [add_block]; exact hn260_2) | (show (Addr.add _ _).block ≠ _; rw [add_block]; exact hn260_2) | exact hn260_2) (.int .i64 ((rd_T55 l0 x3_1).f2))).trans hx260_0; replace hx260_1 := (cell_far (p := ⟨gb259, 2, none⟩) (by first | (rw [add_block]; exact hn260_2) | (show (Addr.add _ _).block ≠ _; rw [add_block]; exact hn260_2) | exact hn260_2) (.int .i64 ((rd_T55 l0 x3_1).f2))).trans hx260_1; replace hx260_2 := (cell_far (p := ⟨gb259, 2, none⟩) (by first | (rw [add_block]; exact hn260_2) | (show (Addr.add _ _).block ≠ _; rw [add_block]; exact hn260_2) | exact hn260_2) (.int .i64 ((rd_T55 l0 x3_1).f2))).trans hx260_2; (try have hy260_0 := fun (n_ : Nat) => (show (((((w30.drewN n_).setCell ⟨gb259, 0, none⟩ (.int .i64 ((rd_T55 l0 x3_1).f0))).setCell ⟨gb259, 1, none⟩ (.int .i64 ((rd_T55 l0 x3_1).f1))).setCell ⟨gb259, 2, none⟩ (.int .i64 ((rd_T55 l0 x3_1).f2)))).cell? _ = some _ from hx260_0)); (try have hy260_1 := fun (n_ : Nat) => (show (((((w30.drewN n_).setCell ⟨gb259, 0, none⟩ (.int .i64 ((rd_T55 l0 x3_1).f0))).setCell ⟨gb259, 1, none⟩ (.int .i64 ((rd_T55 l0 x3_1).f1))).setCell ⟨gb259, 2, none⟩ (.int .i64 ((rd_T55 l0 x3_1).f2)))).cell? _ = some _ from hx260_1)); (try have hy260_2 := fun (n_ : Nat) => (show (((((w30.drewN n_).setCell ⟨gb259, 0, none⟩ (.int .i64 ((rd_T55 l0 x3_1).f0))).setCell ⟨gb259, 1, none⟩ (.int .i64 ((rd_T55 l0 x3_1).f1))).setCell ⟨gb259, 2, none⟩ (.int .i64 ((rd_T55 l0 x3_1).f2)))).cell? _ = some _ from hx260_2)); clear hn260_0; clear hn260_1; clear hn260_2; replace p260 := eq_true p260; replace q260 := eq_true q260))
   repeat (go_quiet (first | fail); try go_wp2_with (first | fail))
   go_roundg k1
   case measure => have := HK1.out; omega
   case rel => exact ⟨(wrap64 (x3_1 + 1)), sd_, H', ⟨by have := HK1.out; omega⟩, ⟨bs1_ HB GE259⟩⟩
end Go.Proofs.Ytocbiggglnpeoaa.M
end
section
namespace Go.Proofs.Ytocbiggglnpeoaa.M
open Go.RowKit Go.Proofs.YtocbiggglnpeoaaW.PrintWords Go.Proofs.YtocbiggglnpeoaaW.PrintLast Go.Proofs.YtocbiggglnpeoaaW.PrintMore
attribute [local go_sem] max2_int min2_int max_two min_two max_three min_three max_four min_four
set_option linter.unusedVariables false
set_option linter.unusedSimpArgs false
mutual
def cohousingref26_Run.j0 : Nat → List (S49) → Int → List (S55) → Bool → Option ((List (S51)) × List Int × Int)
 | 0, _, _, _, _ => none
 | k + 1, x1, x2, x3, x44 => if x44 = true then (some (([] : List (S51)), ([] : List Int), 1)) else (cohousingref26_Run.l0 k x1 x2 x3 ([] : List (S51)) ([] : List Int) 0)
def cohousingref26_Run.l0 : Nat → List (S49) → Int → List (S55) → List (S51) → List Int → Int → Option ((List (S51)) × List Int × Int)
 | 0, _, _, _, _, _, _ => none
 | k + 1, x1, x2, x3, x14, x15, x16 => if x16 < (x1.length : Int) then (if 0 ≤ x16 then (cohousingref26_Run.l1 k x1 x2 x3 x14 x15 x16 ((rd_T49 x1 x16).f1) 0) else (none)) else (some (x14, x15, 0))
def cohousingref26_Run.j3 : Nat → List (S49) → Int → List (S55) → List (S51) → List Int → Int → List (S51) → Int → Option ((List (S51)) × List Int × Int)
 | 0, _, _, _, _, _, _, _, _ => none
 | k + 1, x1, x2, x3, x14, x15, x16, x17, x18 => if x18 < (x17.length : Int) then (if x15.length < 17592186044416 then ((some (x15 ++ [x16] : List Int)).bind fun y268 => (if 0 ≤ x16 then (if x16 < (x1.length : Int) then (if ((rd_T49 x1 x16).f0 = true) then (if 0 ≤ x18 then (if x18 ≤ (x17.length : Int) then ((some (x17.take (x18 : Int).toNat : List (S51))).bind fun y272 => (if x14.length + y272.length < 5864062014805 then (cohousingref26_Run.l0 k x1 x2 x3 (x14 ++ y272) y268 (wrap64 (x16 + 1))) else (none))) else (none)) else (none)) else (if 0 ≤ (x17.length : Int) then ((some (x17.take 0 : List (S51))).bind fun y279 => (if x14.length + y279.length < 5864062014805 then (cohousingref26_Run.l0 k x1 x2 x3 (x14 ++ y279) y268 (wrap64 (x16 + 1))) else (none))) else (none))) else (none)) else (none))) else (none)) else (if 0 ≤ x18 then (if x18 ≤ (x17.length : Int) then ((some (x17.take (x18 : Int).toNat : List (S51))).bind fun y286 => (if x14.length + y286.length < 5864062014805 then (cohousingref26_Run.l0 k x1 x2 x3 (x14 ++ y286) x15 (wrap64 (x16 + 1))) else (none))) else (none)) else (none))
def cohousingref26_Run.l1 : Nat → List (S49) → Int → List (S55) → List (S51) → List Int → Int → List (S51) → Int → Option ((List (S51)) × List Int × Int)
 | 0, _, _, _, _, _, _, _, _ => none
 | k + 1, x1, x2, x3, x14, x15, x16, x17, x18 => if x18 < (x17.length : Int) then (if 0 ≤ x18 then ((cohousingref26_Agrees.f k x3 ((rd_T51 x17 x18).f0) x2).bind fun t267 => (if t267 = true then (cohousingref26_Run.l1 k x1 x2 x3 x14 x15 x16 x17 (wrap64 (x18 + 1))) else (cohousingref26_Run.j3 k x1 x2 x3 x14 x15 x16 x17 x18))) else (none)) else (cohousingref26_Run.j3 k x1 x2 x3 x14 x15 x16 x17 x18)
end
def cohousingref26_Run.f (k : Nat) (l0_0 : List (S84)) (l0_1 : List (S46)) (l1 : List (S49)) (a2 : Int) (l3 : List (S55)) : Option ((List (S51)) × List Int × Int) := (cohousingref23_Valid.f k l0_0 l0_1).bind fun t262 => ((cohousingref26_Rings.f k l0_0 l0_1 l1).bind fun t263 => ((cohousingref26_Replies.f k l3).bind fun t264 => (if t262 = true then (if t263 = true then (if t264 = true then (if a2 < 0 then (cohousingref26_Run.j0 k l1 a2 l3 true) else (cohousingref26_Run.j0 k l1 a2 l3 (decide (a2 > 36524)))) else (cohousingref26_Run.j0 k l1 a2 l3 true)) else (cohousingref26_Run.j0 k l1 a2 l3 true)) else (cohousingref26_Run.j0 k l1 a2 l3 true))))
set_option maxHeartbeats 8000000 in
set_option maxRecDepth 100000 in
theorem cohousingref26_Run.calls (k : Nat) (A0_0 : Option Addr) (c0_0 : Nat) (l0_0 : List (S84)) (A0_1 : Option Addr) (c0_1 : Nat) (l0_1 : List (S46)) (A1 : Option Addr) (c1 : Nat) (l1 : List (S49)) (a2 : Int) (A3 : Option Addr) (c3 : Nat) (l3 : List (S55)) (r1 : List (S51)) (r2 : List Int) (r3 : Int) (w : World) (hr0_0 : Kd.C k84 w A0_0 l0_0.length l0_0) (hc0_0 : l0_0.length ≤ c0_0) (hr0_1 : Kd.C k46 w A0_1 l0_1.length l0_1) (hc0_1 : l0_1.length ≤ c0_1) (hr1 : Kd.C k49 w A1 l1.length l1) (hc1 : l1.length ≤ c1) (hr3 : Kd.C k55 w A3 l3.length l3) (hc3 : l3.length ≤ c3) (h : cohousingref26_Run.f k l0_0 l0_1 l1 a2 l3 = some (r1, r2, r3)) :
  Calls Try.prog 14 #[.agg #[.slice A0_0 l0_0.length c0_0, .slice A0_1 l0_1.length c0_1], .slice A1 l1.length c1, .int .i64 a2, .slice A3 l3.length c3] w fun e w' => ∃ v0_ v1_ : Value, e = .returned (.tuple #[v0_, v1_, .int .i64 r3]) ∧ Kd.R k51 51 w' w.heap.size (fun _ => True) v0_ r1 ∧ Kd.R (Kd.int .i64) 3 w' w.heap.size (fun _ => True) v1_ r2 ∧ Below w.heap.size w w' := by
 have hu25 := Try.underlying25
 have HR0_0 := mk_ hr0_0
 have HC0_0 := mk_ hc0_0
 clear hr0_0 hc0_0
 have HR0_1 := mk_ hr0_1
 have HC0_1 := mk_ hc0_1
 clear hr0_1 hc0_1
 have HR1 := mk_ hr1
 have HC1 := mk_ hc1
 clear hr1 hc1
 have HR3 := mk_ hr3
 have HC3 := mk_ hc3
 clear hr3 hc3
 have HB := mk_ (Below.refl w.heap.size w)
 have H : ((cohousingref23_Valid.f k l0_0 l0_1).bind fun t262 => ((cohousingref26_Rings.f k l0_0 l0_1 l1).bind fun t263 => ((cohousingref26_Replies.f k l3).bind fun t264 => (if t262 = true then (if t263 = true then (if t264 = true then (if a2 < 0 then (cohousingref26_Run.j0 k l1 a2 l3 true) else (cohousingref26_Run.j0 k l1 a2 l3 (decide (a2 > 36524)))) else (cohousingref26_Run.j0 k l1 a2 l3 true)) else (cohousingref26_Run.j0 k l1 a2 l3 true)) else (cohousingref26_Run.j0 k l1 a2 l3 true))))) = some (r1, r2, r3) := h
 clear h
 replace H := Option.bind_eq_some_iff.mp H
 obtain ⟨t262, A50, H⟩ := H
 replace H : ((cohousingref26_Rings.f k l0_0 l0_1 l1).bind fun t263 => ((cohousingref26_Replies.f k l3).bind fun t264 => (if t262 = true then (if t263 = true then (if t264 = true then (if a2 < 0 then (cohousingref26_Run.j0 k l1 a2 l3 true) else (cohousingref26_Run.j0 k l1 a2 l3 (decide (a2 > 36524)))) else (cohousingref26_Run.j0 k l1 a2 l3 true)) else (cohousingref26_Run.j0 k l1 a2 l3 true)) else (cohousingref26_Run.j0 k l1 a2 l3 true)))) = some (r1, r2, r3) := H
 have A5 := mk_ A50
 clear A50
 replace H := Option.bind_eq_some_iff.mp H
 obtain ⟨t263, A60, H⟩ := H
 replace H : ((cohousingref26_Replies.f k l3).bind fun t264 => (if t262 = true then (if t263 = true then (if t264 = true then (if a2 < 0 then (cohousingref26_Run.j0 k l1 a2 l3 true) else (cohousingref26_Run.j0 k l1 a2 l3 (decide (a2 > 36524)))) else (cohousingref26_Run.j0 k l1 a2 l3 true)) else (cohousingref26_Run.j0 k l1 a2 l3 true)) else (cohousingref26_Run.j0 k l1 a2 l3 true))) = some (r1, r2, r3) := H
 have A6 := mk_ A60
 clear A60
 replace H := Option.bind_eq_some_iff.mp H
 obtain ⟨t264, A70, H⟩ := H
 replace H : (if t262 = true then (if t263 = true then (if t264 = true then (if a2 < 0 then (cohousingref26_Run.j0 k l1 a2 l3 true) else (cohousingref26_Run.j0 k l1 a2 l3 (decide (a2 > 36524)))) else (cohousingref26_Run.j0 k l1 a2 l3 true)) else (cohousingref26_Run.j0 k l1 a2 l3 true)) else (cohousingref26_Run.j0 k l1 a2 l3 true)) = some (r1, r2, r3) := H
 have A7 := mk_ A70
 clear A70
 have HC8 := mk_ H
 clear H
 go_enter Try.func14, Try.ntmps14
 go_upto_region 4 with (first | ((with_reducible refine gate_dst (N := 4) rfl ?_); refine box_event ?hg (N := 4) ?hd (cs := #[.slice A0_0 l0_0.length c0_0, .slice A0_1 l0_1.length c0_1]) (t := 25) ?hr ?_; (case hd => rfl); (case hg => rfl); (case hr => first | (go_simp; done) | (go_simp; rfl)); intro gb261 hg w9 hbox hb; have n0_ := mk_ (below_step (bb_ HB) hb); have n1_ := mk_ (hbox); have n2_ := mk_ (bz_ hg (bb_ HB)); have n3_ := mk_ (bz_ hg (bb_ HB)); clear HB; revert n0_ n1_ n2_ n3_; intro HB BK261 GW261 GE261; clear hb hbox hg; have hcz10_0 := bc0_ BK261.out; have hcz10_1 := bc1_ BK261.out; have hfz10_0 := blk_frozen BK261.out 0; have hfz10_1 := blk_frozen BK261.out 1) | ((with_reducible refine gate_callee (f := 25) rfl ?_); refine gl_ (some 21) Try.func25 #[.agg #[.slice A0_0 l0_0.length c0_0, .slice A0_1 l0_1.length c0_1]] ?_; (with_reducible refine (cohousingref23_Valid.calls k _ _ l0_0 _ _ l0_1 t262 _ ?side1 ?side2 ?side3 ?side4 A5.out).mono ?_); (case side1 => exact cc_ ((Kd.C_below HR0_0.out HB.out))); (case side2 => exact HC0_0.out); (case side3 => exact cc_ ((Kd.C_below HR0_1.out HB.out))); (case side4 => exact HC0_1.out); rintro e w11 ⟨rfl, hb⟩; refine ⟨_, rfl, ?_⟩; have n0_ := mk_ (blk_below (kk_ BK261) hb); have n1_ := mk_ (below_step (bs_ HB GE261.out) hb); clear BK261 HB; revert n0_ n1_; intro BK261 HB; (try clear hb); (try clear hb2); (try clear hk); (try clear hi); have hcz12_0 := bc0_ BK261.out; have hcz12_1 := bc1_ BK261.out; have hfz12_0 := blk_frozen BK261.out 0; have hfz12_1 := blk_frozen BK261.out 1) | ((with_reducible refine gate_callee (f := 35) rfl ?_); refine gl_ (some 24) Try.func35 #[.agg #[.slice A0_0 l0_0.length c0_0, .slice A0_1 l0_1.length c0_1], .slice A1 l1.length c1] ?_; (with_reducible refine (cohousingref26_Rings.calls k _ _ l0_0 _ _ l0_1 _ _ l1 t263 _ ?side1 ?side2 ?side3 ?side4 ?side5 ?side6 A6.out).mono ?_); (case side1 => exact cc_ ((Kd.C_below HR0_0.out HB.out))); (case side2 => exact HC0_0.out); (case side3 => exact cc_ ((Kd.C_below HR0_1.out HB.out))); (case side4 => exact HC0_1.out); (case side5 => exact cc_ ((Kd.C_below HR1.out HB.out))); (case side6 => exact HC1.out); rintro e w13 ⟨rfl, hb⟩; refine ⟨_, rfl, ?_⟩; have n0_ := mk_ (blk_below (kk_ BK261) hb); have n1_ := mk_ (below_step (bs_ HB GE261.out) hb); clear BK261 HB; revert n0_ n1_; intro BK261 HB; (try clear hb); (try clear hb2); (try clear hk); (try clear hi)) | ((with_reducible refine gate_callee (f := 36) rfl ?_); refine gl_ (some 26) Try.func36 #[.slice A3 l3.length c3] ?_; (with_reducible refine (cohousingref26_Replies.calls k _ _ l3 t264 _ ?side1 ?side2 A7.out).mono ?_); (case side1 => exact cc_ ((Kd.C_below HR3.out HB.out))); (case side2 => exact HC3.out); rintro e w14 ⟨rfl, hb⟩; refine ⟨_, rfl, ?_⟩; have n0_ := mk_ (blk_below (kk_ BK261) hb); have n1_ := mk_ (below_step (bs_ HB GE261.out) hb); clear BK261 HB; revert n0_ n1_; intro BK261 HB; (try clear hb); (try clear hb2); (try clear hk); (try clear hi)))
 (try simp only [Act.put, sI_, s0_, sS_])
 go_cut [44] (fun v44 wc => ∃ (kq : Nat) (x44_7 : Bool), v44 = .bool x44_7 ∧ Aside0 (cohousingref26_Run.j0 kq l1 a2 l3 x44_7 = some (r1, r2, r3)) ∧ Aside0 (kq ≤ k) ∧ Aside0 (wc.heap[gb261]? = some (.cells #[(.slice A0_0 l0_0.length c0_0), (.slice A0_1 l0_1.length c0_1)] 25 (0, 0))) ∧ Aside0 (Below w.heap.size w wc))
 case first =>
  have H := HC8.out
  clear HC8
  by_cases c15 : t262 = true
  rotate_left
  ·replace c15 := Bool.eq_false_iff.mpr c15
   subst c15
   have H1 : (cohousingref26_Run.j0 k l1 a2 l3 true) = some (r1, r2, r3) := by rw [if_neg (show ¬ (false = true) by decide)] at H; exact H
   clear H
   have H := H1
   clear H1
   have H' := mk_ H
   clear H
   go_wp2
   go_meet
   case rel => exact ⟨_, (true), sd_, H', ⟨by first | omega | exact Nat.le_refl _⟩, ⟨kk_ BK261⟩, ⟨bs1_ HB GE261⟩⟩
  subst c15
  have H1 : (if t263 = true then (if t264 = true then (if a2 < 0 then (cohousingref26_Run.j0 k l1 a2 l3 true) else (cohousingref26_Run.j0 k l1 a2 l3 (decide (a2 > 36524)))) else (cohousingref26_Run.j0 k l1 a2 l3 true)) else (cohousingref26_Run.j0 k l1 a2 l3 true)) = some (r1, r2, r3) := by rw [if_pos rfl] at H; exact H
  clear H
  have H := H1
  clear H1
  by_cases c16 : t263 = true
  rotate_left
  ·replace c16 := Bool.eq_false_iff.mpr c16
   subst c16
   have H1 : (cohousingref26_Run.j0 k l1 a2 l3 true) = some (r1, r2, r3) := by rw [if_neg (show ¬ (false = true) by decide)] at H; exact H
   clear H
   have H := H1
   clear H1
   have H' := mk_ H
   clear H
   go_wp2
   go_meet
   case rel => exact ⟨_, (true), sd_, H', ⟨by first | omega | exact Nat.le_refl _⟩, ⟨kk_ BK261⟩, ⟨bs1_ HB GE261⟩⟩
  subst c16
  have H1 : (if t264 = true then (if a2 < 0 then (cohousingref26_Run.j0 k l1 a2 l3 true) else (cohousingref26_Run.j0 k l1 a2 l3 (decide (a2 > 36524)))) else (cohousingref26_Run.j0 k l1 a2 l3 true)) = some (r1, r2, r3) := by rw [if_pos rfl] at H; exact H
  clear H
  have H := H1
  clear H1
  by_cases c17 : t264 = true
  rotate_left
  ·replace c17 := Bool.eq_false_iff.mpr c17
   subst c17
   have H1 : (cohousingref26_Run.j0 k l1 a2 l3 true) = some (r1, r2, r3) := by rw [if_neg (show ¬ (false = true) by decide)] at H; exact H
   clear H
   have H := H1
   clear H1
   have H' := mk_ H
   clear H
   go_wp2
   go_meet
   case rel => exact ⟨_, (true), sd_, H', ⟨by first | omega | exact Nat.le_refl _⟩, ⟨kk_ BK261⟩, ⟨bs1_ HB GE261⟩⟩
  subst c17
  have H1 : (if a2 < 0 then (cohousingref26_Run.j0 k l1 a2 l3 true) else (cohousingref26_Run.j0 k l1 a2 l3 (decide (a2 > 36524)))) = some (r1, r2, r3) := by rw [if_pos rfl] at H; exact H
  clear H
  have H := H1
  clear H1
  by_cases c18 : a2 < 0
  rotate_left
  ·rw [if_neg c18] at H
   have c18b0 : decide (a2 < 0) = false := decide_eq_false c18
   clear c18
   (first | rw [c18b0] | (simp only [i64_w, i32_w]; rw [c18b0]) | skip)
   have H' := mk_ H
   clear H
   go_wp2
   go_meet
   case rel => exact ⟨_, (decide (a2 > 36524)), sd_, H', ⟨by first | omega | exact Nat.le_refl _⟩, ⟨kk_ BK261⟩, ⟨bs1_ HB GE261⟩⟩
  rw [if_pos c18] at H
  have c18b0 : decide (a2 < 0) = true := decide_eq_true c18
  clear c18
  (first | rw [c18b0] | (simp only [i64_w, i32_w]; rw [c18b0]) | skip)
  have H' := mk_ H
  clear H
  go_wp2
  go_meet
  case rel => exact ⟨_, (true), sd_, H', ⟨by first | omega | exact Nat.le_refl _⟩, ⟨kk_ BK261⟩, ⟨bs1_ HB GE261⟩⟩
 case rest =>
  clear HC8
  try clear c1; try clear c2; try clear p2; try clear c3; try clear c14; try clear c15; try clear c16; try clear c17; try clear c18; try clear c18b0; try clear hcz10_0; try clear hcz10_1; try clear hcz12_0; try clear hcz12_1; try clear hfz10_0; try clear hfz10_1; try clear hfz12_0; try clear hfz12_1
  obtain ⟨kq, x44_7, rfl, HA, HJ7, BK261, HB⟩ := hcut
  cases kq with
  | zero => exact absurd HA.out (by simp [cohousingref26_Run.j0])
  | succ kj7 =>
   have H := HA.out
   clear HA
   simp only [cohousingref26_Run.j0] at H
   by_cases c19 : x44_7 = true
   ·subst c19
    have H1 : (some (([] : List (S51)), ([] : List Int), 1)) = some (r1, r2, r3) := by rw [if_pos rfl] at H; exact H
    clear H
    have H := H1
    clear H1
    simp only [Option.some.injEq, Prod.mk.injEq] at H
    obtain ⟨rfl, rfl, rfl⟩ := H
    go_wp2
    go_ret3
    exact ⟨_, _, ew_, by first | exact Kd.R_nil _ _ _ _ _ | exact Kd.N_nil _ _ _ _ _ | exact Kd.V_nil _ _ _ _ _ | exact Kd.Q_nil _ _ _ _ _ | exact Kd.S_nil _ _ _ _ _, by first | exact Kd.R_nil _ _ _ _ _ | exact Kd.N_nil _ _ _ _ _ | exact Kd.V_nil _ _ _ _ _ | exact Kd.Q_nil _ _ _ _ _ | exact Kd.S_nil _ _ _ _ _, bs1_ HB GE261⟩
   replace c19 := Bool.eq_false_iff.mpr c19
   subst c19
   have H1 : (cohousingref26_Run.l0 kj7 l1 a2 l3 ([] : List (S51)) ([] : List Int) 0) = some (r1, r2, r3) := by rw [if_neg (show ¬ (false = true) by decide)] at H; exact H
   clear H
   have H := H1
   clear H1
   have H' := mk_ H
   clear H
   go_wp2
   go_loopg [14, 15, 16] kj7 (fun kq v14 v15 v16 w' => ∃ (x14_2 : List (S51)) (x15_2 : List Int) (x16_2 : Int), v16 = .int .i64 x16_2 ∧ Aside0 (cohousingref26_Run.l0 kq l1 a2 l3 x14_2 x15_2 x16_2 = some (r1, r2, r3)) ∧ Aside0 (kq ≤ kj7) ∧ Aside0 (Kd.R k51 51 w' w.heap.size (fun _ => True) v14 x14_2) ∧ Aside0 (Kd.R (Kd.int .i64) 3 w' w.heap.size (fun _ => True) v15 x15_2) ∧ Aside0 (w'.heap[gb261]? = some (.cells #[(.slice A0_0 l0_0.length c0_0), (.slice A0_1 l0_1.length c0_1)] 25 (0, 0))) ∧ Aside0 (Below w.heap.size w w'))
   case atStart => exact ⟨(([] : List (S51))), (([] : List Int)), (0), sd_, H', ⟨Nat.le_refl _⟩, ⟨by first | exact Kd.R_nil _ _ _ _ _ | exact Kd.N_nil _ _ _ _ _ | exact Kd.V_nil _ _ _ _ _ | exact Kd.Q_nil _ _ _ _ _ | exact Kd.S_nil _ _ _ _ _⟩, ⟨by first | exact Kd.R_nil _ _ _ _ _ | exact Kd.N_nil _ _ _ _ _ | exact Kd.V_nil _ _ _ _ _ | exact Kd.Q_nil _ _ _ _ _ | exact Kd.S_nil _ _ _ _ _⟩, ⟨kk_ BK261⟩, ⟨bs1_ HB GE261⟩⟩
   case round =>
    clear H'
    try clear c1; try clear c2; try clear p2; try clear c3; try clear c14; try clear c15; try clear c16; try clear c17; try clear c18; try clear c18b0; try clear c19; try clear hcz10_0; try clear hcz10_1; try clear hcz12_0; try clear hcz12_1; try clear hfz10_0; try clear hfz10_1; try clear hfz12_0; try clear hfz12_1; try clear p2
    obtain ⟨x14_2, x15_2, x16_2, rfl, HA, HK2, HO_14, HO_15, BK261, HB⟩ := hrel
    cases gk with
    | zero => exact absurd HA.out (by simp [cohousingref26_Run.l0])
    | succ k2 =>
     have H := HA.out
     clear HA
     simp only [cohousingref26_Run.l0] at H
     by_cases c20 : x16_2 < (l1.length : Int)
     rotate_left
     ·rw [if_neg c20] at H
      have c20b0 : decide (x16_2 < (l1.length : Int)) = false := decide_eq_false c20
      clear c20
      simp only [Option.some.injEq, Prod.mk.injEq] at H
      obtain ⟨rfl, rfl, rfl⟩ := H
      go_wp2
      go_ret3
      exact ⟨_, _, ew_, rr_ HO_14, rr_ HO_15, bs1_ HB GE261⟩
     rw [if_pos c20] at H
     have c20b0 : decide (x16_2 < (l1.length : Int)) = true := decide_eq_true c20
     clear c20
     by_cases c21 : 0 ≤ x16_2
     rotate_left
     ·rw [if_neg c21] at H
      exact absurd H (by simp)
     rw [if_pos c21] at H
     have c21b0 : decide (0 ≤ x16_2) = true := decide_eq_true c21
     clear c21
     have HC22 := mk_ H
     clear H
     have p265 : 0 ≤ (x16_2 : Int) := od_
     have q265 : x16_2 < (l1.length : Int) := od_
     obtain ⟨ad265, A265_1, c265_1, e265, hx265_0, hx265_1, hl265_1, hi265_1⟩ := at_T49 HR1.out x16_2 p265 q265
     cases e265
     replace hx265_0 := cb_ HB hx265_0
     replace hx265_1 := cb_ HB hx265_1
     have HR265_1 := mk_ hi265_1
     have HC265_1 := mk_ hl265_1
     clear hi265_1 hl265_1
     replace p265 := eq_true p265
     replace q265 := eq_true q265
     go_upto_block 2 with (fail)
     go_cut [18] (fun v18 wc => ∃ (kq : Nat) (x18_21 : Int), v18 = .int .i64 x18_21 ∧ Aside0 (cohousingref26_Run.j3 kq l1 a2 l3 x14_2 x15_2 x16_2 ((rd_T49 l1 x16_2).f1) x18_21 = some (r1, r2, r3)) ∧ Aside0 (kq ≤ k2) ∧ Aside0 (Kd.R k51 51 wc w.heap.size (fun _ => True) u14 x14_2) ∧ Aside0 (Kd.R (Kd.int .i64) 3 wc w.heap.size (fun _ => True) u15 x15_2) ∧ Aside0 (wc.heap[gb261]? = some (.cells #[(.slice A0_0 l0_0.length c0_0), (.slice A0_1 l0_1.length c0_1)] 25 (0, 0))) ∧ Aside0 (Below w.heap.size w wc))
     case first =>
      have H := HC22.out
      clear HC22
      have H' := mk_ H
      clear H
      go_wp2
      go_loopg [18] k2 (fun kq v18 w' => ∃ (x18_3 : Int), v18 = .int .i64 x18_3 ∧ Aside0 (cohousingref26_Run.l1 kq l1 a2 l3 x14_2 x15_2 x16_2 ((rd_T49 l1 x16_2).f1) x18_3 = some (r1, r2, r3)) ∧ Aside0 (kq ≤ k2) ∧ Aside0 (Kd.R k51 51 w' w.heap.size (fun _ => True) u14 x14_2) ∧ Aside0 (Kd.R (Kd.int .i64) 3 w' w.heap.size (fun _ => True) u15 x15_2) ∧ Aside0 (w'.heap[gb261]? = some (.cells #[(.slice A0_0 l0_0.length c0_0), (.slice A0_1 l0_1.length c0_1)] 25 (0, 0))) ∧ Aside0 (Below w.heap.size w w'))
      case atStart => exact ⟨(0), sd_, H', ⟨Nat.le_refl _⟩, ⟨rr_ HO_14⟩, ⟨rr_ HO_15⟩, ⟨kk_ BK261⟩, ⟨bs1_ HB GE261⟩⟩
      case round =>
       clear H'
       try clear c1; try clear c2; try clear p2; try clear q2; try clear hx2; try clear c3; try clear c14; try clear c15; try clear c16; try clear c17; try clear c18; try clear c18b0; try clear c19; try clear c20; try clear c20b0; try clear c21; try clear c21b0; try clear hcz10_0; try clear hcz10_1; try clear hcz12_0; try clear hcz12_1; try clear hfz10_0; try clear hfz10_1; try clear hfz12_0; try clear hfz12_1; try clear hx265_0; try clear hx265_1; try clear p2; try clear p265; try clear q265
       obtain ⟨x18_3, rfl, HA, HK3, HO_14, HO_15, BK261, HB⟩ := hrel
       cases gk with
       | zero => exact absurd HA.out (by simp [cohousingref26_Run.l1])
       | succ k3 =>
        have H := HA.out
        clear HA
        simp only [cohousingref26_Run.l1] at H
        by_cases c23 : x18_3 < (((rd_T49 l1 x16_2).f1).length : Int)
        rotate_left
        ·rw [if_neg c23] at H
         have c23b0 : decide (x18_3 < (((rd_T49 l1 x16_2).f1).length : Int)) = false := decide_eq_false c23
         clear c23
         (first | rw [c23b0] | (simp only [i64_w, i32_w]; rw [c23b0]) | skip)
         have H' := mk_ H
         clear H
         go_wp2
         go_meet
         case rel => exact ⟨_, (x18_3), sd_, H', ⟨by have := HJ7.out; have := HK2.out; have := HK3.out; first | omega | exact Nat.le_refl _⟩, ⟨rr_ HO_14⟩, ⟨rr_ HO_15⟩, ⟨kk_ BK261⟩, ⟨bs1_ HB GE261⟩⟩
        rw [if_pos c23] at H
        have c23b0 : decide (x18_3 < (((rd_T49 l1 x16_2).f1).length : Int)) = true := decide_eq_true c23
        clear c23
        (first | rw [c23b0] | (simp only [i64_w, i32_w]; rw [c23b0]) | skip)
        by_cases c24 : 0 ≤ x18_3
        rotate_left
        ·rw [if_neg c24] at H
         exact absurd H (by simp)
        rw [if_pos c24] at H
        have c24b0 : decide (0 ≤ x18_3) = true := decide_eq_true c24
        clear c24
        replace H := Option.bind_eq_some_iff.mp H
        obtain ⟨t267, A250, H⟩ := H
        replace H : (if t267 = true then (cohousingref26_Run.l1 k3 l1 a2 l3 x14_2 x15_2 x16_2 ((rd_T49 l1 x16_2).f1) (wrap64 (x18_3 + 1))) else (cohousingref26_Run.j3 k3 l1 a2 l3 x14_2 x15_2 x16_2 ((rd_T49 l1 x16_2).f1) x18_3)) = some (r1, r2, r3) := H
        have A25 := mk_ A250
        clear A250
        by_cases c26 : t267 = true
        rotate_left
        ·replace c26 := Bool.eq_false_iff.mpr c26
         subst c26
         have H1 : (cohousingref26_Run.j3 k3 l1 a2 l3 x14_2 x15_2 x16_2 ((rd_T49 l1 x16_2).f1) x18_3) = some (r1, r2, r3) := by rw [if_neg (show ¬ (false = true) by decide)] at H; exact H
         clear H
         have H := H1
         clear H1
         have H' := mk_ H
         clear H
         have p266 : 0 ≤ (x18_3 : Int) := od_
         have q266 : x18_3 < (((rd_T49 l1 x16_2).f1).length : Int) := od_
         obtain ⟨ad266, e266, hx266_0, hx266_1, hx266_2⟩ := at_T51 HR265_1.out x18_3 p266 q266
         cases e266
         replace hx266_0 := cb_ HB hx266_0
         replace hx266_1 := cb_ HB hx266_1
         replace hx266_2 := cb_ HB hx266_2
         replace p266 := eq_true p266
         replace q266 := eq_true q266
         go_wp2_with (first | ((with_reducible refine gate_callee (f := 23) rfl ?_); refine gl_ (some 67) Try.func23 #[.slice A3 l3.length c3, .int .i64 ((rd_T51 ((rd_T49 l1 x16_2).f1) x18_3).f0), .int .i64 a2] ?_; (with_reducible refine (cohousingref26_Agrees.calls k3 _ _ l3 ((rd_T51 ((rd_T49 l1 x16_2).f1) x18_3).f0) a2 false _ ?side1 ?side2 A25.out).mono ?_); (case side1 => exact cc_ ((Kd.C_below HR3.out HB.out))); (case side2 => exact HC3.out); rintro e w' ⟨rfl, ⟨nd, rfl⟩⟩; refine ⟨_, rfl, ?_⟩))
         go_meet
         case rel => exact ⟨_, (x18_3), sd_, H', ⟨by have := HJ7.out; have := HK2.out; have := HK3.out; first | omega | exact Nat.le_refl _⟩, ⟨rr_ HO_14⟩, ⟨rr_ HO_15⟩, ⟨kk_ BK261⟩, ⟨bs1_ HB GE261⟩⟩
        subst c26
        have H1 : (cohousingref26_Run.l1 k3 l1 a2 l3 x14_2 x15_2 x16_2 ((rd_T49 l1 x16_2).f1) (wrap64 (x18_3 + 1))) = some (r1, r2, r3) := by rw [if_pos rfl] at H; exact H
        clear H
        have H := H1
        clear H1
        have H' := mk_ H
        clear H
        have p266 : 0 ≤ (x18_3 : Int) := od_
        have q266 : x18_3 < (((rd_T49 l1 x16_2).f1).length : Int) := od_
        obtain ⟨ad266, e266, hx266_0, hx266_1, hx266_2⟩ := at_T51 HR265_1.out x18_3 p266 q266
        cases e266
        replace hx266_0 := cb_ HB hx266_0
        replace hx266_1 := cb_ HB hx266_1
        replace hx266_2 := cb_ HB hx266_2
        replace p266 := eq_true p266
        replace q266 := eq_true q266
        go_wp2_with (first | ((with_reducible refine gate_callee (f := 23) rfl ?_); refine gl_ (some 67) Try.func23 #[.slice A3 l3.length c3, .int .i64 ((rd_T51 ((rd_T49 l1 x16_2).f1) x18_3).f0), .int .i64 a2] ?_; (with_reducible refine (cohousingref26_Agrees.calls k3 _ _ l3 ((rd_T51 ((rd_T49 l1 x16_2).f1) x18_3).f0) a2 true _ ?side1 ?side2 A25.out).mono ?_); (case side1 => exact cc_ ((Kd.C_below HR3.out HB.out))); (case side2 => exact HC3.out); rintro e w' ⟨rfl, ⟨nd, rfl⟩⟩; refine ⟨_, rfl, ?_⟩))
        go_roundg k3
        case measure => have := HJ7.out; have := HK2.out; have := HK3.out; omega
        case rel => exact ⟨(wrap64 (x18_3 + 1)), sd_, H', ⟨by have := HJ7.out; have := HK2.out; have := HK3.out; omega⟩, ⟨rr_ HO_14⟩, ⟨rr_ HO_15⟩, ⟨kk_ BK261⟩, ⟨bs1_ HB GE261⟩⟩
     case rest =>
      clear HC22
      try clear c1; try clear c2; try clear p2; try clear q2; try clear hx2; try clear c3; try clear p6; try clear c14; try clear c15; try clear c16; try clear c17; try clear c18; try clear c18b0; try clear c19; try clear c20; try clear c20b0; try clear c21; try clear c21b0; try clear c23; try clear c23b0; try clear c24; try clear c24b0; try clear c25; try clear c26; try clear p26; try clear q26; try clear hx26; try clear hcz10_0; try clear hcz10_1; try clear hcz12_0; try clear hcz12_1; try clear hfz10_0; try clear hfz10_1; try clear hfz12_0; try clear hfz12_1; try clear hx265_0; try clear hx265_1; try clear hx266_0; try clear hx266_1; try clear hx266_2; try clear p2; try clear p265; try clear p266; try clear q2; try clear q265; try clear q266
      obtain ⟨kq, x18_21, rfl, HA, HJ21, HO_14, HO_15, BK261, HB⟩ := hcut
      cases kq with
      | zero => exact absurd HA.out (by simp [cohousingref26_Run.j3])
      | succ kj21 =>
       have H := HA.out
       clear HA
       simp only [cohousingref26_Run.j3] at H
       by_cases c27 : x18_21 < (((rd_T49 l1 x16_2).f1).length : Int)
       rotate_left
       ·rw [if_neg c27] at H
        have c27b0 : decide (x18_21 < (((rd_T49 l1 x16_2).f1).length : Int)) = false := decide_eq_false c27
        clear c27
        by_cases c44 : 0 ≤ x18_21
        rotate_left
        ·rw [if_neg c44] at H
         exact absurd H (by simp)
        rw [if_pos c44] at H
        have c44b0 := eq_true c44
        have c44b1 : decide (0 ≤ x18_21) = true := decide_eq_true c44
        clear c44
        by_cases c45 : x18_21 ≤ (((rd_T49 l1 x16_2).f1).length : Int)
        rotate_left
        ·rw [if_neg c45] at H
         exact absurd H (by simp)
        rw [if_pos c45] at H
        have c45b0 := eq_true c45
        have c45b1 : decide (x18_21 ≤ (((rd_T49 l1 x16_2).f1).length : Int)) = true := decide_eq_true c45
        clear c45
        obtain ⟨y286, hy286⟩ : ∃ y_ : List (S51), y_ = (((rd_T49 l1 x16_2).f1).take (x18_21 : Int).toNat) := ⟨_, rfl⟩
        replace H : (if x14_2.length + y286.length < 5864062014805 then (cohousingref26_Run.l0 kj21 l1 a2 l3 (x14_2 ++ y286) x15_2 (wrap64 (x16_2 + 1))) else (none)) = some (r1, r2, r3) := by first | (rw [hy286]; with_reducible exact H) | (have H2_ := (Option.bind_some _ _).symm.trans H; rw [hy286]; with_reducible exact H2_) | (have H2_ := (Option.bind_some _ _).symm.trans H; with_reducible exact H2_) | with_reducible exact H | (rw [hy286]; exact H) | exact H
        have Ny286 := mk_ hy286
        clear hy286
        by_cases c46 : x14_2.length + y286.length < 5864062014805
        rotate_left
        ·rw [if_neg c46] at H
         exact absurd H (by simp)
        rw [if_pos c46] at H
        have LMc46 := mk_ c46
        clear c46
        obtain ⟨y290, hy290⟩ : ∃ y_ : List (S51), y_ = (x14_2 ++ y286) := ⟨_, rfl⟩
        replace H : (cohousingref26_Run.l0 kj21 l1 a2 l3 y290 x15_2 (wrap64 (x16_2 + 1))) = some (r1, r2, r3) := by first | (rw [hy290]; with_reducible exact H) | (have H2_ := (Option.bind_some _ _).symm.trans H; rw [hy290]; with_reducible exact H2_) | (have H2_ := (Option.bind_some _ _).symm.trans H; with_reducible exact H2_) | with_reducible exact H | (rw [hy290]; exact H) | exact H
        have Ny290 := mk_ hy290
        clear hy290
        have H' := mk_ H
        clear H
        have q47 : (x18_21 : Int) ≤ ((((rd_T49 l1 x16_2).f1).length : Int) : Int) := od_
        obtain ⟨i047, hi047, _, hsz47, _⟩ := info_parts info51
        have hroom47 : ((rd_T49 l1 x16_2).f1).length ≤ c265_1 := HC265_1.out
        have hC47 : Kd.C k51 _ A265_1 ((rd_T49 l1 x16_2).f1).length ((rd_T49 l1 x16_2).f1) := HR265_1.out
        have hcut47 := cut_to (P := Try.prog) 28 51 .i64 Try.underlying28 hi047 A265_1 ((rd_T49 l1 x16_2).f1).length c265_1 x18_21 (od_) q47 hroom47
        have hr47 := Kd.C_take (m := (x18_21 : Int).toNat) hC47 (by omega)
        have hy47 : y286.length = (x18_21 : Int).toNat := (by rw [Ny286.out, List.length_take]; omega)
        rw [← Ny286.out] at hr47
        rw [← hy47] at hcut47
        have HR289 := mk_ hr47
        have HC289 := mk_ (show y286.length ≤ c265_1 from by omega)
        clear hr47 hC47 hroom47 hi047 hsz47
        have KY47 := mk_ hy47
        clear hy47
        replace q47 := eq_true q47
        go_wp2_with (first | ((with_reducible refine gate_builtin (b := .append) (xs := #[.tmp 86, .tmp 89]) rfl ?_); at_builtin; refine Kd.R_append_rows k51 (w0 := w) w.heap.size rfl (.tmp 86) (.tmp 89) 28 51 (.agg #[(.int .i64 0), (.int .i64 0), (.int .i64 0)]) 24 rfl Try.underlying28 info51 rfl (by decide) (by omega) u14 x14_2 y286 _ _ _ (fun _ => True) (fun _ => False) rfl rfl ?aO ?aR (fun _ _ h => h) (fun _ h => h.elim) ?aF ?aB ?aS ?aL ?_; (case aR => exact cc_ ((Kd.C_below HR289.out HB.out))); (case aB => exact (bs_ HB GE261.out)); (case aF => exact (fun _ _ => trivial)); (case aO => exact (rr_ HO_14)); (case aS => exact (below_size (bs_ HB GE261.out))); (case aL => have := LMc46.out; omega); intro v291 w48 ho hb hg hat; rw [← Ny290.out] at ho; have n0_ := mk_ (Kd.R_over' (rr_ HO_15) (Kd.R_typed (rr_ HO_14)) (by decide) hg); have n1_ := mk_ (blk_grown (kk_ BK261) hg (Kd.R_ne HO_14.out BK261.out (by decide))); have n2_ := mk_ (hb); have n3_ := mk_ (ho); clear HO_15 BK261 HB HO_14; revert n0_ n1_ n2_ n3_; intro HO_15 BK261 HB HO292; clear ho hb hg hat))
        go_roundg kj21
        case measure => have := HJ7.out; have := HK2.out; have := HJ21.out; omega
        case rel => exact ⟨(y290), (x15_2), (wrap64 (x16_2 + 1)), sd_, H', ⟨by have := HJ7.out; have := HK2.out; have := HJ21.out; omega⟩, ⟨rr_ HO292⟩, ⟨rr_ HO_15⟩, ⟨kk_ BK261⟩, ⟨bs1_ HB GE261⟩⟩
       rw [if_pos c27] at H
       have c27b0 : decide (x18_21 < (((rd_T49 l1 x16_2).f1).length : Int)) = true := decide_eq_true c27
       clear c27
       by_cases c28 : x15_2.length < 17592186044416
       rotate_left
       ·rw [if_neg c28] at H
        exact absurd H (by simp)
       rw [if_pos c28] at H
       have LMc28 := mk_ c28
       clear c28
       obtain ⟨y268, hy268⟩ : ∃ y_ : List Int, y_ = (x15_2 ++ [x16_2]) := ⟨_, rfl⟩
       replace H : (if 0 ≤ x16_2 then (if x16_2 < (l1.length : Int) then (if ((rd_T49 l1 x16_2).f0 = true) then (if 0 ≤ x18_21 then (if x18_21 ≤ (((rd_T49 l1 x16_2).f1).length : Int) then ((some (((rd_T49 l1 x16_2).f1).take (x18_21 : Int).toNat : List (S51))).bind fun y272 => (if x14_2.length + y272.length < 5864062014805 then (cohousingref26_Run.l0 kj21 l1 a2 l3 (x14_2 ++ y272) y268 (wrap64 (x16_2 + 1))) else (none))) else (none)) else (none)) else (if 0 ≤ (((rd_T49 l1 x16_2).f1).length : Int) then ((some (((rd_T49 l1 x16_2).f1).take 0 : List (S51))).bind fun y279 => (if x14_2.length + y279.length < 5864062014805 then (cohousingref26_Run.l0 kj21 l1 a2 l3 (x14_2 ++ y279) y268 (wrap64 (x16_2 + 1))) else (none))) else (none))) else (none)) else (none)) = some (r1, r2, r3) := by first | (rw [hy268]; with_reducible exact H) | (have H2_ := (Option.bind_some _ _).symm.trans H; rw [hy268]; with_reducible exact H2_) | (have H2_ := (Option.bind_some _ _).symm.trans H; with_reducible exact H2_) | with_reducible exact H | (rw [hy268]; exact H) | exact H
       have Ny268 := mk_ hy268
       clear hy268
       by_cases c29 : 0 ≤ x16_2
       rotate_left
       ·rw [if_neg c29] at H
        exact absurd H (by simp)
       rw [if_pos c29] at H
       have c29b0 : decide (0 ≤ x16_2) = true := decide_eq_true c29
       clear c29
       by_cases c30 : x16_2 < (l1.length : Int)
       rotate_left
       ·rw [if_neg c30] at H
        exact absurd H (by simp)
       rw [if_pos c30] at H
       have c30b0 : decide (x16_2 < (l1.length : Int)) = true := decide_eq_true c30
       clear c30
       obtain ⟨bq31, hbq31⟩ : ∃ b_ : Bool, b_ = ((rd_T49 l1 x16_2).f0) := ⟨_, rfl⟩
       replace H : (if (bq31 = true) then (if 0 ≤ x18_21 then (if x18_21 ≤ (((rd_T49 l1 x16_2).f1).length : Int) then ((some (((rd_T49 l1 x16_2).f1).take (x18_21 : Int).toNat : List (S51))).bind fun y272 => (if x14_2.length + y272.length < 5864062014805 then (cohousingref26_Run.l0 kj21 l1 a2 l3 (x14_2 ++ y272) y268 (wrap64 (x16_2 + 1))) else (none))) else (none)) else (none)) else (if 0 ≤ (((rd_T49 l1 x16_2).f1).length : Int) then ((some (((rd_T49 l1 x16_2).f1).take 0 : List (S51))).bind fun y279 => (if x14_2.length + y279.length < 5864062014805 then (cohousingref26_Run.l0 kj21 l1 a2 l3 (x14_2 ++ y279) y268 (wrap64 (x16_2 + 1))) else (none))) else (none))) = some (r1, r2, r3) := by rw [← hbq31] at H; exact H
       have Nbq31 := mk_ hbq31
       clear hbq31
       by_cases c32 : (bq31 = true)
       rotate_left
       ·replace c32 := Bool.eq_false_iff.mpr c32
        subst c32
        have H1 : (if 0 ≤ (((rd_T49 l1 x16_2).f1).length : Int) then ((some (((rd_T49 l1 x16_2).f1).take 0 : List (S51))).bind fun y279 => (if x14_2.length + y279.length < 5864062014805 then (cohousingref26_Run.l0 kj21 l1 a2 l3 (x14_2 ++ y279) y268 (wrap64 (x16_2 + 1))) else (none))) else (none)) = some (r1, r2, r3) := by rw [if_neg (show ¬ (false = true) by decide)] at H; exact H
        clear H
        have H := H1
        clear H1
        by_cases c39 : 0 ≤ (((rd_T49 l1 x16_2).f1).length : Int)
        rotate_left
        ·rw [if_neg c39] at H
         exact absurd H (by simp)
        rw [if_pos c39] at H
        have c39b0 := eq_true c39
        have c39b1 : decide (0 ≤ (((rd_T49 l1 x16_2).f1).length : Int)) = true := decide_eq_true c39
        clear c39
        obtain ⟨y279, hy279⟩ : ∃ y_ : List (S51), y_ = (((rd_T49 l1 x16_2).f1).take 0) := ⟨_, rfl⟩
        replace H : (if x14_2.length + y279.length < 5864062014805 then (cohousingref26_Run.l0 kj21 l1 a2 l3 (x14_2 ++ y279) y268 (wrap64 (x16_2 + 1))) else (none)) = some (r1, r2, r3) := by first | (rw [hy279]; with_reducible exact H) | (have H2_ := (Option.bind_some _ _).symm.trans H; rw [hy279]; with_reducible exact H2_) | (have H2_ := (Option.bind_some _ _).symm.trans H; with_reducible exact H2_) | with_reducible exact H | (rw [hy279]; exact H) | exact H
        have Ny279 := mk_ hy279
        clear hy279
        by_cases c40 : x14_2.length + y279.length < 5864062014805
        rotate_left
        ·rw [if_neg c40] at H
         exact absurd H (by simp)
        rw [if_pos c40] at H
        have LMc40 := mk_ c40
        clear c40
        obtain ⟨y283, hy283⟩ : ∃ y_ : List (S51), y_ = (x14_2 ++ y279) := ⟨_, rfl⟩
        replace H : (cohousingref26_Run.l0 kj21 l1 a2 l3 y283 y268 (wrap64 (x16_2 + 1))) = some (r1, r2, r3) := by first | (rw [hy283]; with_reducible exact H) | (have H2_ := (Option.bind_some _ _).symm.trans H; rw [hy283]; with_reducible exact H2_) | (have H2_ := (Option.bind_some _ _).symm.trans H; with_reducible exact H2_) | with_reducible exact H | (rw [hy283]; exact H) | exact H
        have Ny283 := mk_ hy283
        clear hy283
        have H' := mk_ H
        clear H
        go_wp2_with (first | ((with_reducible refine gate_builtin (b := .append) (xs := #[.tmp 76, .tmp 78]) rfl ?_); at_builtin; refine Kd.R_append (Kd.int .i64) (w0 := w) w.heap.size rfl (.tmp 76) (.tmp 78) 29 3 (.int .i64 0) 8 rfl Try.underlying29 info3 rfl (by decide) (by omega) u15 x15_2 x16_2 [.int .i64 x16_2] (fun _ => True) (fun _ => False) rfl rfl ?aP (fun _ hk => hk.elim) ?aF ?aO ?aB ?aS ?aL ?_; (case aP => exact rfl); (case aB => exact (bs_ HB GE261.out)); (case aF => exact (fun _ _ => trivial)); (case aO => exact (rr_ HO_15)); (case aS => exact (below_size (bs_ HB GE261.out))); (case aL => have := LMc28.out; omega); intro v269 w41 ho hb hg hat; rw [← Ny268.out] at ho; have n0_ := mk_ (Kd.R_over' (rr_ HO_14) (Kd.R_typed (rr_ HO_15)) (by decide) hg); have n1_ := mk_ (blk_grown (kk_ BK261) hg (Kd.R_ne HO_15.out BK261.out (by decide))); have n2_ := mk_ (hb); have n3_ := mk_ (ho); clear HO_14 BK261 HB HO_15; revert n0_ n1_ n2_ n3_; intro HO_14 BK261 HB HO270; clear ho hb hg hat; have p271 : 0 ≤ (x16_2 : Int) := od_; have q271 : x16_2 < (l1.length : Int) := od_; obtain ⟨ad271, A271_1, c271_1, e271, hx271_0, hx271_1, hl271_1, hi271_1⟩ := at_T49 HR1.out x16_2 p271 q271; (try rw [← Nbq31.out] at hx271_0); obtain rfl : ad265 = ad271 := (by injection e271); replace hx271_0 := cb_ HB hx271_0; replace hx271_1 := cb_ HB hx271_1; have HR271_1 := mk_ hi271_1; have HC271_1 := mk_ hl271_1; clear hi271_1 hl271_1; replace p271 := eq_true p271; replace q271 := eq_true q271; have q42 : (0 : Int) ≤ ((((rd_T49 l1 x16_2).f1).length : Int) : Int) := od_; obtain ⟨i042, hi042, _, hsz42, _⟩ := info_parts info51; have hroom42 : ((rd_T49 l1 x16_2).f1).length ≤ c265_1 := HC265_1.out; have hC42 : Kd.C k51 _ A265_1 ((rd_T49 l1 x16_2).f1).length ((rd_T49 l1 x16_2).f1) := HR265_1.out; have hcut42 := cut_to (P := Try.prog) 28 51 .i64 Try.underlying28 hi042 A265_1 ((rd_T49 l1 x16_2).f1).length c265_1 0 (by omega) q42 hroom42; have hr42 := Kd.C_take (m := 0) hC42 (by omega); have hy42 : y279.length = (0 : Int).toNat := (by rw [Ny279.out, List.length_take]; omega); rw [← Ny279.out] at hr42; rw [← hy42] at hcut42; have HR282 := mk_ hr42; have HC282 := mk_ (show y279.length ≤ c265_1 from by omega); clear hr42 hC42 hroom42 hi042 hsz42; have KY42 := mk_ hy42; clear hy42; replace q42 := eq_true q42) | ((with_reducible refine gate_builtin (b := .append) (xs := #[.tmp 86, .tmp 89]) rfl ?_); at_builtin; refine Kd.R_append_rows k51 (w0 := w) w.heap.size rfl (.tmp 86) (.tmp 89) 28 51 (.agg #[(.int .i64 0), (.int .i64 0), (.int .i64 0)]) 24 rfl Try.underlying28 info51 rfl (by decide) (by omega) u14 x14_2 y279 _ _ _ (fun _ => True) (fun _ => False) rfl rfl ?aO ?aR (fun _ _ h => h) (fun _ h => h.elim) ?aF ?aB ?aS ?aL ?_; (case aR => exact cc_ ((Kd.C_below HR282.out HB.out))); (case aB => exact (bs_ HB GE261.out)); (case aF => exact (fun _ _ => trivial)); (case aO => exact (rr_ HO_14)); (case aS => exact (below_size (bs_ HB GE261.out))); (case aL => have := LMc40.out; omega); intro v284 w43 ho hb hg hat; rw [← Ny283.out] at ho; have n0_ := mk_ (blk_grown (kk_ BK261) hg (Kd.R_ne HO_14.out BK261.out (by decide))); have n1_ := mk_ (Kd.R_over' (rr_ HO270) (Kd.R_typed (rr_ HO_14)) (by decide) hg); have n2_ := mk_ (hb); have n3_ := mk_ (ho); clear BK261 HO270 HB HO_14; revert n0_ n1_ n2_ n3_; intro BK261 HO270 HB HO285; clear ho hb hg hat))
        go_roundg kj21
        case measure => have := HJ7.out; have := HK2.out; have := HJ21.out; omega
        case rel => exact ⟨(y283), (y268), (wrap64 (x16_2 + 1)), sd_, H', ⟨by have := HJ7.out; have := HK2.out; have := HJ21.out; omega⟩, ⟨rr_ HO285⟩, ⟨rr_ HO270⟩, ⟨kk_ BK261⟩, ⟨bs1_ HB GE261⟩⟩
       subst c32
       have H1 : (if 0 ≤ x18_21 then (if x18_21 ≤ (((rd_T49 l1 x16_2).f1).length : Int) then ((some (((rd_T49 l1 x16_2).f1).take (x18_21 : Int).toNat : List (S51))).bind fun y272 => (if x14_2.length + y272.length < 5864062014805 then (cohousingref26_Run.l0 kj21 l1 a2 l3 (x14_2 ++ y272) y268 (wrap64 (x16_2 + 1))) else (none))) else (none)) else (none)) = some (r1, r2, r3) := by rw [if_pos rfl] at H; exact H
       clear H
       have H := H1
       clear H1
       by_cases c33 : 0 ≤ x18_21
       rotate_left
       ·rw [if_neg c33] at H
        exact absurd H (by simp)
       rw [if_pos c33] at H
       have c33b0 := eq_true c33
       have c33b1 : decide (0 ≤ x18_21) = true := decide_eq_true c33
       clear c33
       by_cases c34 : x18_21 ≤ (((rd_T49 l1 x16_2).f1).length : Int)
       rotate_left
       ·rw [if_neg c34] at H
        exact absurd H (by simp)
       rw [if_pos c34] at H
       have c34b0 := eq_true c34
       have c34b1 : decide (x18_21 ≤ (((rd_T49 l1 x16_2).f1).length : Int)) = true := decide_eq_true c34
       clear c34
       obtain ⟨y272, hy272⟩ : ∃ y_ : List (S51), y_ = (((rd_T49 l1 x16_2).f1).take (x18_21 : Int).toNat) := ⟨_, rfl⟩
       replace H : (if x14_2.length + y272.length < 5864062014805 then (cohousingref26_Run.l0 kj21 l1 a2 l3 (x14_2 ++ y272) y268 (wrap64 (x16_2 + 1))) else (none)) = some (r1, r2, r3) := by first | (rw [hy272]; with_reducible exact H) | (have H2_ := (Option.bind_some _ _).symm.trans H; rw [hy272]; with_reducible exact H2_) | (have H2_ := (Option.bind_some _ _).symm.trans H; with_reducible exact H2_) | with_reducible exact H | (rw [hy272]; exact H) | exact H
       have Ny272 := mk_ hy272
       clear hy272
       by_cases c35 : x14_2.length + y272.length < 5864062014805
       rotate_left
       ·rw [if_neg c35] at H
        exact absurd H (by simp)
       rw [if_pos c35] at H
       have LMc35 := mk_ c35
       clear c35
       obtain ⟨y276, hy276⟩ : ∃ y_ : List (S51), y_ = (x14_2 ++ y272) := ⟨_, rfl⟩
       replace H : (cohousingref26_Run.l0 kj21 l1 a2 l3 y276 y268 (wrap64 (x16_2 + 1))) = some (r1, r2, r3) := by first | (rw [hy276]; with_reducible exact H) | (have H2_ := (Option.bind_some _ _).symm.trans H; rw [hy276]; with_reducible exact H2_) | (have H2_ := (Option.bind_some _ _).symm.trans H; with_reducible exact H2_) | with_reducible exact H | (rw [hy276]; exact H) | exact H
       have Ny276 := mk_ hy276
       clear hy276
       have H' := mk_ H
       clear H
       go_wp2_with (first | ((with_reducible refine gate_builtin (b := .append) (xs := #[.tmp 76, .tmp 78]) rfl ?_); at_builtin; refine Kd.R_append (Kd.int .i64) (w0 := w) w.heap.size rfl (.tmp 76) (.tmp 78) 29 3 (.int .i64 0) 8 rfl Try.underlying29 info3 rfl (by decide) (by omega) u15 x15_2 x16_2 [.int .i64 x16_2] (fun _ => True) (fun _ => False) rfl rfl ?aP (fun _ hk => hk.elim) ?aF ?aO ?aB ?aS ?aL ?_; (case aP => exact rfl); (case aB => exact (bs_ HB GE261.out)); (case aF => exact (fun _ _ => trivial)); (case aO => exact (rr_ HO_15)); (case aS => exact (below_size (bs_ HB GE261.out))); (case aL => have := LMc28.out; omega); intro v269 w36 ho hb hg hat; rw [← Ny268.out] at ho; have n0_ := mk_ (Kd.R_over' (rr_ HO_14) (Kd.R_typed (rr_ HO_15)) (by decide) hg); have n1_ := mk_ (blk_grown (kk_ BK261) hg (Kd.R_ne HO_15.out BK261.out (by decide))); have n2_ := mk_ (hb); have n3_ := mk_ (ho); clear HO_14 BK261 HB HO_15; revert n0_ n1_ n2_ n3_; intro HO_14 BK261 HB HO270; clear ho hb hg hat; have p271 : 0 ≤ (x16_2 : Int) := od_; have q271 : x16_2 < (l1.length : Int) := od_; obtain ⟨ad271, A271_1, c271_1, e271, hx271_0, hx271_1, hl271_1, hi271_1⟩ := at_T49 HR1.out x16_2 p271 q271; (try rw [← Nbq31.out] at hx271_0); obtain rfl : ad265 = ad271 := (by injection e271); replace hx271_0 := cb_ HB hx271_0; replace hx271_1 := cb_ HB hx271_1; have HR271_1 := mk_ hi271_1; have HC271_1 := mk_ hl271_1; clear hi271_1 hl271_1; replace p271 := eq_true p271; replace q271 := eq_true q271; have q37 : (x18_21 : Int) ≤ ((((rd_T49 l1 x16_2).f1).length : Int) : Int) := od_; obtain ⟨i037, hi037, _, hsz37, _⟩ := info_parts info51; have hroom37 : ((rd_T49 l1 x16_2).f1).length ≤ c265_1 := HC265_1.out; have hC37 : Kd.C k51 _ A265_1 ((rd_T49 l1 x16_2).f1).length ((rd_T49 l1 x16_2).f1) := HR265_1.out; have hcut37 := cut_to (P := Try.prog) 28 51 .i64 Try.underlying28 hi037 A265_1 ((rd_T49 l1 x16_2).f1).length c265_1 x18_21 (od_) q37 hroom37; have hr37 := Kd.C_take (m := (x18_21 : Int).toNat) hC37 (by omega); have hy37 : y272.length = (x18_21 : Int).toNat := (by rw [Ny272.out, List.length_take]; omega); rw [← Ny272.out] at hr37; rw [← hy37] at hcut37; have HR275 := mk_ hr37; have HC275 := mk_ (show y272.length ≤ c265_1 from by omega); clear hr37 hC37 hroom37 hi037 hsz37; have KY37 := mk_ hy37; clear hy37; replace q37 := eq_true q37) | ((with_reducible refine gate_builtin (b := .append) (xs := #[.tmp 86, .tmp 89]) rfl ?_); at_builtin; refine Kd.R_append_rows k51 (w0 := w) w.heap.size rfl (.tmp 86) (.tmp 89) 28 51 (.agg #[(.int .i64 0), (.int .i64 0), (.int .i64 0)]) 24 rfl Try.underlying28 info51 rfl (by decide) (by omega) u14 x14_2 y272 _ _ _ (fun _ => True) (fun _ => False) rfl rfl ?aO ?aR (fun _ _ h => h) (fun _ h => h.elim) ?aF ?aB ?aS ?aL ?_; (case aR => exact cc_ ((Kd.C_below HR275.out HB.out))); (case aB => exact (bs_ HB GE261.out)); (case aF => exact (fun _ _ => trivial)); (case aO => exact (rr_ HO_14)); (case aS => exact (below_size (bs_ HB GE261.out))); (case aL => have := LMc35.out; omega); intro v277 w38 ho hb hg hat; rw [← Ny276.out] at ho; have n0_ := mk_ (blk_grown (kk_ BK261) hg (Kd.R_ne HO_14.out BK261.out (by decide))); have n1_ := mk_ (Kd.R_over' (rr_ HO270) (Kd.R_typed (rr_ HO_14)) (by decide) hg); have n2_ := mk_ (hb); have n3_ := mk_ (ho); clear BK261 HO270 HB HO_14; revert n0_ n1_ n2_ n3_; intro BK261 HO270 HB HO278; clear ho hb hg hat))
       go_roundg kj21
       case measure => have := HJ7.out; have := HK2.out; have := HJ21.out; omega
       case rel => exact ⟨(y276), (y268), (wrap64 (x16_2 + 1)), sd_, H', ⟨by have := HJ7.out; have := HK2.out; have := HJ21.out; omega⟩, ⟨rr_ HO278⟩, ⟨rr_ HO270⟩, ⟨kk_ BK261⟩, ⟨bs1_ HB GE261⟩⟩
end Go.Proofs.Ytocbiggglnpeoaa.M
end
