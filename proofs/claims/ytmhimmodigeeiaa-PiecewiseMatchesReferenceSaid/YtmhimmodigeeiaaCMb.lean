/- Part 2 of the base that the seat's proofs share: words, walks and plain laws. -/
import Derived.Test.YtmhimmodigeeiaaCMa
set_option linter.unusedVariables false
set_option linter.unusedSimpArgs false
section
namespace Go.Proofs.Ytmhimmodigeeiaa.P
open Go.RowKit Go.Proofs.YtmhimmodigeeiaaW.PrintWords Go.Proofs.YtmhimmodigeeiaaW.PrintLast Go.Proofs.YtmhimmodigeeiaaW.PrintMore
attribute [local go_sem] max2_int min2_int max_two min_two max_three min_three max_four min_four
set_option linter.unusedVariables false
set_option linter.unusedSimpArgs false
set_option maxHeartbeats 8000000
set_option maxRecDepth 100000
section
def rational_Valid.f (a0_0 : Int) (a0_1 : Int) : Option (Bool) := if a0_1 ≥ 1 then (if a0_1 ≤ 1000000000 then (if a0_0 ≥ (-1000000000) then (if a0_0 ≤ 1000000000 then ((rational_size.f a0_0).bind fun t102 => ((rational_size.f a0_1).bind fun t103 => ((rational_common.f t102 t103).bind fun t104 => (some (t104 == 1))))) else (some false)) else (some false)) else (some false)) else (some false)
theorem rational_Valid.calls (a0_0 : Int) (a0_1 : Int) (r : Bool) (w : World) (h : rational_Valid.f a0_0 a0_1 = some r) :
  Calls Try.prog 37 #[.agg #[.int .i64 a0_0, .int .i64 a0_1]] w fun e w' => e = .returned (.bool r) ∧ Below w.heap.size w w' := by
 have hu24 := Try.underlying24
 have HB := mk_ (Below.refl w.heap.size w)
 have H : (if a0_1 ≥ 1 then (if a0_1 ≤ 1000000000 then (if a0_0 ≥ (-1000000000) then (if a0_0 ≤ 1000000000 then ((rational_size.f a0_0).bind fun t102 => ((rational_size.f a0_1).bind fun t103 => ((rational_common.f t102 t103).bind fun t104 => (some (t104 == 1))))) else (some false)) else (some false)) else (some false)) else (some false)) = some r := h
 clear h
 by_cases c2 : a0_1 ≥ 1
 rotate_left
 ·rw [if_neg c2] at H
  have c2b0 : decide (1 ≤ a0_1) = false := decide_eq_false c2
  clear c2
  obtain rfl := Option.some.inj H
  go_enter Try.func37, Try.ntmps37
  go_wp2_with (first | ((with_reducible refine gate_dst (N := 1) rfl ?_); refine box_event ?hg (N := 1) ?hd (cs := #[.int .i64 a0_0, .int .i64 a0_1]) (t := 24) ?hr ?_; (case hd => rfl); (case hg => rfl); (case hr => first | (go_simp; done) | (go_simp; rfl)); intro gb101 hg w17 hbox hb; have BK101 := mk_ (hbox); have GW101 := mk_ (bz_ hg (bb_ HB)); have GE101 := mk_ (bz_ hg (bb_ HB)); replace HB := mk_ (below_step (bb_ HB) hb); clear hb hbox hg; have hcz18_0 := bc0_ BK101.out; have hcz18_1 := bc1_ BK101.out; have hfz18_0 := blk_frozen BK101.out 0; have hfz18_1 := blk_frozen BK101.out 1))
  repeat (go_quiet (first | ((with_reducible refine gate_dst (N := 1) rfl ?_); refine box_event ?hg (N := 1) ?hd (cs := #[.int .i64 a0_0, .int .i64 a0_1]) (t := 24) ?hr ?_; (case hd => rfl); (case hg => rfl); (case hr => first | (go_simp; done) | (go_simp; rfl)); intro gb101 hg w17 hbox hb; have BK101 := mk_ (hbox); have GW101 := mk_ (bz_ hg (bb_ HB)); have GE101 := mk_ (bz_ hg (bb_ HB)); replace HB := mk_ (below_step (bb_ HB) hb); clear hb hbox hg; have hcz18_0 := bc0_ BK101.out; have hcz18_1 := bc1_ BK101.out; have hfz18_0 := blk_frozen BK101.out 0; have hfz18_1 := blk_frozen BK101.out 1)); try go_wp2_with (first | ((with_reducible refine gate_dst (N := 1) rfl ?_); refine box_event ?hg (N := 1) ?hd (cs := #[.int .i64 a0_0, .int .i64 a0_1]) (t := 24) ?hr ?_; (case hd => rfl); (case hg => rfl); (case hr => first | (go_simp; done) | (go_simp; rfl)); intro gb101 hg w17 hbox hb; have BK101 := mk_ (hbox); have GW101 := mk_ (bz_ hg (bb_ HB)); have GE101 := mk_ (bz_ hg (bb_ HB)); replace HB := mk_ (below_step (bb_ HB) hb); clear hb hbox hg; have hcz18_0 := bc0_ BK101.out; have hcz18_1 := bc1_ BK101.out; have hfz18_0 := blk_frozen BK101.out 0; have hfz18_1 := blk_frozen BK101.out 1)))
  go_ret
  exact ⟨ew_, bs1_ HB GE101⟩
 rw [if_pos c2] at H
 have c2b0 : decide (1 ≤ a0_1) = true := decide_eq_true c2
 clear c2
 by_cases c3 : a0_1 ≤ 1000000000
 rotate_left
 ·rw [if_neg c3] at H
  have c3b0 : decide (a0_1 ≤ 1000000000) = false := decide_eq_false c3
  clear c3
  obtain rfl := Option.some.inj H
  go_enter Try.func37, Try.ntmps37
  go_wp2_with (first | ((with_reducible refine gate_dst (N := 1) rfl ?_); refine box_event ?hg (N := 1) ?hd (cs := #[.int .i64 a0_0, .int .i64 a0_1]) (t := 24) ?hr ?_; (case hd => rfl); (case hg => rfl); (case hr => first | (go_simp; done) | (go_simp; rfl)); intro gb101 hg w15 hbox hb; have BK101 := mk_ (hbox); have GW101 := mk_ (bz_ hg (bb_ HB)); have GE101 := mk_ (bz_ hg (bb_ HB)); replace HB := mk_ (below_step (bb_ HB) hb); clear hb hbox hg; have hcz16_0 := bc0_ BK101.out; have hcz16_1 := bc1_ BK101.out; have hfz16_0 := blk_frozen BK101.out 0; have hfz16_1 := blk_frozen BK101.out 1))
  repeat (go_quiet (first | ((with_reducible refine gate_dst (N := 1) rfl ?_); refine box_event ?hg (N := 1) ?hd (cs := #[.int .i64 a0_0, .int .i64 a0_1]) (t := 24) ?hr ?_; (case hd => rfl); (case hg => rfl); (case hr => first | (go_simp; done) | (go_simp; rfl)); intro gb101 hg w15 hbox hb; have BK101 := mk_ (hbox); have GW101 := mk_ (bz_ hg (bb_ HB)); have GE101 := mk_ (bz_ hg (bb_ HB)); replace HB := mk_ (below_step (bb_ HB) hb); clear hb hbox hg; have hcz16_0 := bc0_ BK101.out; have hcz16_1 := bc1_ BK101.out; have hfz16_0 := blk_frozen BK101.out 0; have hfz16_1 := blk_frozen BK101.out 1)); try go_wp2_with (first | ((with_reducible refine gate_dst (N := 1) rfl ?_); refine box_event ?hg (N := 1) ?hd (cs := #[.int .i64 a0_0, .int .i64 a0_1]) (t := 24) ?hr ?_; (case hd => rfl); (case hg => rfl); (case hr => first | (go_simp; done) | (go_simp; rfl)); intro gb101 hg w15 hbox hb; have BK101 := mk_ (hbox); have GW101 := mk_ (bz_ hg (bb_ HB)); have GE101 := mk_ (bz_ hg (bb_ HB)); replace HB := mk_ (below_step (bb_ HB) hb); clear hb hbox hg; have hcz16_0 := bc0_ BK101.out; have hcz16_1 := bc1_ BK101.out; have hfz16_0 := blk_frozen BK101.out 0; have hfz16_1 := blk_frozen BK101.out 1)))
  go_ret
  exact ⟨ew_, bs1_ HB GE101⟩
 rw [if_pos c3] at H
 have c3b0 : decide (a0_1 ≤ 1000000000) = true := decide_eq_true c3
 clear c3
 by_cases c4 : a0_0 ≥ (-1000000000)
 rotate_left
 ·rw [if_neg c4] at H
  have c4b0 : decide ((-1000000000) ≤ a0_0) = false := decide_eq_false c4
  clear c4
  obtain rfl := Option.some.inj H
  go_enter Try.func37, Try.ntmps37
  go_wp2_with (first | ((with_reducible refine gate_dst (N := 1) rfl ?_); refine box_event ?hg (N := 1) ?hd (cs := #[.int .i64 a0_0, .int .i64 a0_1]) (t := 24) ?hr ?_; (case hd => rfl); (case hg => rfl); (case hr => first | (go_simp; done) | (go_simp; rfl)); intro gb101 hg w13 hbox hb; have BK101 := mk_ (hbox); have GW101 := mk_ (bz_ hg (bb_ HB)); have GE101 := mk_ (bz_ hg (bb_ HB)); replace HB := mk_ (below_step (bb_ HB) hb); clear hb hbox hg; have hcz14_0 := bc0_ BK101.out; have hcz14_1 := bc1_ BK101.out; have hfz14_0 := blk_frozen BK101.out 0; have hfz14_1 := blk_frozen BK101.out 1))
  repeat (go_quiet (first | ((with_reducible refine gate_dst (N := 1) rfl ?_); refine box_event ?hg (N := 1) ?hd (cs := #[.int .i64 a0_0, .int .i64 a0_1]) (t := 24) ?hr ?_; (case hd => rfl); (case hg => rfl); (case hr => first | (go_simp; done) | (go_simp; rfl)); intro gb101 hg w13 hbox hb; have BK101 := mk_ (hbox); have GW101 := mk_ (bz_ hg (bb_ HB)); have GE101 := mk_ (bz_ hg (bb_ HB)); replace HB := mk_ (below_step (bb_ HB) hb); clear hb hbox hg; have hcz14_0 := bc0_ BK101.out; have hcz14_1 := bc1_ BK101.out; have hfz14_0 := blk_frozen BK101.out 0; have hfz14_1 := blk_frozen BK101.out 1)); try go_wp2_with (first | ((with_reducible refine gate_dst (N := 1) rfl ?_); refine box_event ?hg (N := 1) ?hd (cs := #[.int .i64 a0_0, .int .i64 a0_1]) (t := 24) ?hr ?_; (case hd => rfl); (case hg => rfl); (case hr => first | (go_simp; done) | (go_simp; rfl)); intro gb101 hg w13 hbox hb; have BK101 := mk_ (hbox); have GW101 := mk_ (bz_ hg (bb_ HB)); have GE101 := mk_ (bz_ hg (bb_ HB)); replace HB := mk_ (below_step (bb_ HB) hb); clear hb hbox hg; have hcz14_0 := bc0_ BK101.out; have hcz14_1 := bc1_ BK101.out; have hfz14_0 := blk_frozen BK101.out 0; have hfz14_1 := blk_frozen BK101.out 1)))
  go_ret
  exact ⟨ew_, bs1_ HB GE101⟩
 rw [if_pos c4] at H
 have c4b0 : decide ((-1000000000) ≤ a0_0) = true := decide_eq_true c4
 clear c4
 by_cases c5 : a0_0 ≤ 1000000000
 rotate_left
 ·rw [if_neg c5] at H
  have c5b0 : decide (a0_0 ≤ 1000000000) = false := decide_eq_false c5
  clear c5
  obtain rfl := Option.some.inj H
  go_enter Try.func37, Try.ntmps37
  go_wp2_with (first | ((with_reducible refine gate_dst (N := 1) rfl ?_); refine box_event ?hg (N := 1) ?hd (cs := #[.int .i64 a0_0, .int .i64 a0_1]) (t := 24) ?hr ?_; (case hd => rfl); (case hg => rfl); (case hr => first | (go_simp; done) | (go_simp; rfl)); intro gb101 hg w11 hbox hb; have BK101 := mk_ (hbox); have GW101 := mk_ (bz_ hg (bb_ HB)); have GE101 := mk_ (bz_ hg (bb_ HB)); replace HB := mk_ (below_step (bb_ HB) hb); clear hb hbox hg; have hcz12_0 := bc0_ BK101.out; have hcz12_1 := bc1_ BK101.out; have hfz12_0 := blk_frozen BK101.out 0; have hfz12_1 := blk_frozen BK101.out 1))
  repeat (go_quiet (first | ((with_reducible refine gate_dst (N := 1) rfl ?_); refine box_event ?hg (N := 1) ?hd (cs := #[.int .i64 a0_0, .int .i64 a0_1]) (t := 24) ?hr ?_; (case hd => rfl); (case hg => rfl); (case hr => first | (go_simp; done) | (go_simp; rfl)); intro gb101 hg w11 hbox hb; have BK101 := mk_ (hbox); have GW101 := mk_ (bz_ hg (bb_ HB)); have GE101 := mk_ (bz_ hg (bb_ HB)); replace HB := mk_ (below_step (bb_ HB) hb); clear hb hbox hg; have hcz12_0 := bc0_ BK101.out; have hcz12_1 := bc1_ BK101.out; have hfz12_0 := blk_frozen BK101.out 0; have hfz12_1 := blk_frozen BK101.out 1)); try go_wp2_with (first | ((with_reducible refine gate_dst (N := 1) rfl ?_); refine box_event ?hg (N := 1) ?hd (cs := #[.int .i64 a0_0, .int .i64 a0_1]) (t := 24) ?hr ?_; (case hd => rfl); (case hg => rfl); (case hr => first | (go_simp; done) | (go_simp; rfl)); intro gb101 hg w11 hbox hb; have BK101 := mk_ (hbox); have GW101 := mk_ (bz_ hg (bb_ HB)); have GE101 := mk_ (bz_ hg (bb_ HB)); replace HB := mk_ (below_step (bb_ HB) hb); clear hb hbox hg; have hcz12_0 := bc0_ BK101.out; have hcz12_1 := bc1_ BK101.out; have hfz12_0 := blk_frozen BK101.out 0; have hfz12_1 := blk_frozen BK101.out 1)))
  go_ret
  exact ⟨ew_, bs1_ HB GE101⟩
 rw [if_pos c5] at H
 have c5b0 : decide (a0_0 ≤ 1000000000) = true := decide_eq_true c5
 clear c5
 replace H := Option.bind_eq_some_iff.mp H
 obtain ⟨t102, A60, H⟩ := H
 replace H : ((rational_size.f a0_1).bind fun t103 => ((rational_common.f t102 t103).bind fun t104 => (some (t104 == 1)))) = some r := H
 have A6 := mk_ A60
 clear A60
 replace H := Option.bind_eq_some_iff.mp H
 obtain ⟨t103, A70, H⟩ := H
 replace H : ((rational_common.f t102 t103).bind fun t104 => (some (t104 == 1))) = some r := H
 have A7 := mk_ A70
 clear A70
 replace H := Option.bind_eq_some_iff.mp H
 obtain ⟨t104, A80, H⟩ := H
 replace H : (some (t104 == 1)) = some r := H
 have A8 := mk_ A80
 clear A80
 obtain rfl := Option.some.inj H
 go_enter Try.func37, Try.ntmps37
 go_wp2_with (first | ((with_reducible refine gate_dst (N := 1) rfl ?_); refine box_event ?hg (N := 1) ?hd (cs := #[.int .i64 a0_0, .int .i64 a0_1]) (t := 24) ?hr ?_; (case hd => rfl); (case hg => rfl); (case hr => first | (go_simp; done) | (go_simp; rfl)); intro gb101 hg w9 hbox hb; have BK101 := mk_ (hbox); have GW101 := mk_ (bz_ hg (bb_ HB)); have GE101 := mk_ (bz_ hg (bb_ HB)); replace HB := mk_ (below_step (bb_ HB) hb); clear hb hbox hg; have hcz10_0 := bc0_ BK101.out; have hcz10_1 := bc1_ BK101.out; have hfz10_0 := blk_frozen BK101.out 0; have hfz10_1 := blk_frozen BK101.out 1) | (go_at_call 58; (with_reducible refine (rational_size.calls a0_0 t102 _ A6.out).mono ?_); rintro e w' ⟨rfl, ⟨nd, rfl⟩⟩; (try first | exact ⟨rfl, _, World.drewN_drewN _ _ _⟩ | exact ⟨rfl, _, Eq.trans (World.drewN_drewN _ _ _) (congrArg (World.drewN _) (Nat.add_assoc _ _ _))⟩)) | (go_at_call 58; (with_reducible refine (rational_size.calls a0_1 t103 _ A7.out).mono ?_); rintro e w' ⟨rfl, ⟨nd, rfl⟩⟩; (try first | exact ⟨rfl, _, World.drewN_drewN _ _ _⟩ | exact ⟨rfl, _, Eq.trans (World.drewN_drewN _ _ _) (congrArg (World.drewN _) (Nat.add_assoc _ _ _))⟩)) | (go_at_call 57; (with_reducible refine (rational_common.calls t102 t103 t104 _ A8.out).mono ?_); rintro e w' ⟨rfl, ⟨nd, rfl⟩⟩; (try first | exact ⟨rfl, _, World.drewN_drewN _ _ _⟩ | exact ⟨rfl, _, Eq.trans (World.drewN_drewN _ _ _) (congrArg (World.drewN _) (Nat.add_assoc _ _ _))⟩)))
 repeat (go_quiet (first | ((with_reducible refine gate_dst (N := 1) rfl ?_); refine box_event ?hg (N := 1) ?hd (cs := #[.int .i64 a0_0, .int .i64 a0_1]) (t := 24) ?hr ?_; (case hd => rfl); (case hg => rfl); (case hr => first | (go_simp; done) | (go_simp; rfl)); intro gb101 hg w9 hbox hb; have BK101 := mk_ (hbox); have GW101 := mk_ (bz_ hg (bb_ HB)); have GE101 := mk_ (bz_ hg (bb_ HB)); replace HB := mk_ (below_step (bb_ HB) hb); clear hb hbox hg; have hcz10_0 := bc0_ BK101.out; have hcz10_1 := bc1_ BK101.out; have hfz10_0 := blk_frozen BK101.out 0; have hfz10_1 := blk_frozen BK101.out 1) | (go_at_call 58; (with_reducible refine (rational_size.calls a0_0 t102 _ A6.out).mono ?_); rintro e w' ⟨rfl, ⟨nd, rfl⟩⟩; (try first | exact ⟨rfl, _, World.drewN_drewN _ _ _⟩ | exact ⟨rfl, _, Eq.trans (World.drewN_drewN _ _ _) (congrArg (World.drewN _) (Nat.add_assoc _ _ _))⟩)) | (go_at_call 58; (with_reducible refine (rational_size.calls a0_1 t103 _ A7.out).mono ?_); rintro e w' ⟨rfl, ⟨nd, rfl⟩⟩; (try first | exact ⟨rfl, _, World.drewN_drewN _ _ _⟩ | exact ⟨rfl, _, Eq.trans (World.drewN_drewN _ _ _) (congrArg (World.drewN _) (Nat.add_assoc _ _ _))⟩)) | (go_at_call 57; (with_reducible refine (rational_common.calls t102 t103 t104 _ A8.out).mono ?_); rintro e w' ⟨rfl, ⟨nd, rfl⟩⟩; (try first | exact ⟨rfl, _, World.drewN_drewN _ _ _⟩ | exact ⟨rfl, _, Eq.trans (World.drewN_drewN _ _ _) (congrArg (World.drewN _) (Nat.add_assoc _ _ _))⟩))); try go_wp2_with (first | ((with_reducible refine gate_dst (N := 1) rfl ?_); refine box_event ?hg (N := 1) ?hd (cs := #[.int .i64 a0_0, .int .i64 a0_1]) (t := 24) ?hr ?_; (case hd => rfl); (case hg => rfl); (case hr => first | (go_simp; done) | (go_simp; rfl)); intro gb101 hg w9 hbox hb; have BK101 := mk_ (hbox); have GW101 := mk_ (bz_ hg (bb_ HB)); have GE101 := mk_ (bz_ hg (bb_ HB)); replace HB := mk_ (below_step (bb_ HB) hb); clear hb hbox hg; have hcz10_0 := bc0_ BK101.out; have hcz10_1 := bc1_ BK101.out; have hfz10_0 := blk_frozen BK101.out 0; have hfz10_1 := blk_frozen BK101.out 1) | (go_at_call 58; (with_reducible refine (rational_size.calls a0_0 t102 _ A6.out).mono ?_); rintro e w' ⟨rfl, ⟨nd, rfl⟩⟩; (try first | exact ⟨rfl, _, World.drewN_drewN _ _ _⟩ | exact ⟨rfl, _, Eq.trans (World.drewN_drewN _ _ _) (congrArg (World.drewN _) (Nat.add_assoc _ _ _))⟩)) | (go_at_call 58; (with_reducible refine (rational_size.calls a0_1 t103 _ A7.out).mono ?_); rintro e w' ⟨rfl, ⟨nd, rfl⟩⟩; (try first | exact ⟨rfl, _, World.drewN_drewN _ _ _⟩ | exact ⟨rfl, _, Eq.trans (World.drewN_drewN _ _ _) (congrArg (World.drewN _) (Nat.add_assoc _ _ _))⟩)) | (go_at_call 57; (with_reducible refine (rational_common.calls t102 t103 t104 _ A8.out).mono ?_); rintro e w' ⟨rfl, ⟨nd, rfl⟩⟩; (try first | exact ⟨rfl, _, World.drewN_drewN _ _ _⟩ | exact ⟨rfl, _, Eq.trans (World.drewN_drewN _ _ _) (congrArg (World.drewN _) (Nat.add_assoc _ _ _))⟩))))
 go_ret
 exact ⟨ew_, bs1_ HB GE101⟩
end
section
def piecewise_numbers.f (a0_0 : Int) (a0_1 : Int) (a0_2 : Int) (a0_3 : Int) (a0_4 : Int) : Option (Bool) := (rational_Valid.f a0_1 a0_2).bind fun t106 => (if t106 = true then ((rational_Valid.f a0_3 a0_4).bind fun t107 => (if t107 = true then (if a0_2 ≤ 100 then (if a0_4 ≤ 100 then (some (decide ((mx a0_3 (wrap64 (-a0_3))) ≤ 100000))) else (some false)) else (some false)) else (some false))) else (some false))
theorem piecewise_numbers.calls (a0_0 : Int) (a0_1 : Int) (a0_2 : Int) (a0_3 : Int) (a0_4 : Int) (r : Bool) (w : World) (h : piecewise_numbers.f a0_0 a0_1 a0_2 a0_3 a0_4 = some r) :
  Calls Try.prog 38 #[.agg #[.int .i64 a0_0, .int .i64 a0_1, .int .i64 a0_2, .int .i64 a0_3, .int .i64 a0_4]] w fun e w' => e = .returned (.bool r) ∧ Below w.heap.size w w' := by
 have hu51 := Try.underlying51
 have hu24 := Try.underlying24
 have HB := mk_ (Below.refl w.heap.size w)
 have H : ((rational_Valid.f a0_1 a0_2).bind fun t106 => (if t106 = true then ((rational_Valid.f a0_3 a0_4).bind fun t107 => (if t107 = true then (if a0_2 ≤ 100 then (if a0_4 ≤ 100 then (some (decide ((mx a0_3 (wrap64 (-a0_3))) ≤ 100000))) else (some false)) else (some false)) else (some false))) else (some false))) = some r := h
 clear h
 replace H := Option.bind_eq_some_iff.mp H
 obtain ⟨t106, A20, H⟩ := H
 replace H : (if t106 = true then ((rational_Valid.f a0_3 a0_4).bind fun t107 => (if t107 = true then (if a0_2 ≤ 100 then (if a0_4 ≤ 100 then (some (decide ((mx a0_3 (wrap64 (-a0_3))) ≤ 100000))) else (some false)) else (some false)) else (some false))) else (some false)) = some r := H
 have A2 := mk_ A20
 clear A20
 by_cases c3 : t106 = true
 rotate_left
 ·replace c3 := Bool.eq_false_iff.mpr c3
  subst c3
  have H1 : (some false) = some r := by rw [if_neg (show ¬ (false = true) by decide)] at H; exact H
  clear H
  have H := H1
  clear H1
  obtain rfl := Option.some.inj H
  go_enter Try.func38, Try.ntmps38
  go_wp2_with (first | ((with_reducible refine gate_dst (N := 1) rfl ?_); (try (refine gate_guard (by rfl) ?_; dsimp only)); refine box_event ?hg (N := 1) ?hd (cs := #[.int .i64 a0_0, .int .i64 a0_1, .int .i64 a0_2, .int .i64 a0_3, .int .i64 a0_4]) (t := 51) ?hr ?_; (case hd => rfl); (case hg => rfl); (case hr => first | (go_simp; done) | (go_simp; rfl)); intro gb105 hg w32 hbox hb; have BK105 := mk_ (hbox); have GW105 := mk_ (bz_ hg (bb_ HB)); have GE105 := mk_ (bz_ hg (bb_ HB)); replace HB := mk_ (below_step (bb_ HB) hb); clear hb hbox hg; have hcz33_0 := bc0_ BK105.out; have hcz33_1 := bc1_ BK105.out; have hcz33_2 := bc2_ BK105.out; have hcz33_3 : w32.cell? ⟨gb105, 3, none⟩ = some (.int .i64 a0_3) := (blk_cell BK105.out 3).trans rfl; have hcz33_4 : w32.cell? ⟨gb105, 4, none⟩ = some (.int .i64 a0_4) := (blk_cell BK105.out 4).trans rfl; have hfz33_0 := blk_frozen BK105.out 0; have hfz33_1 := blk_frozen BK105.out 1; have hfz33_2 := blk_frozen BK105.out 2; have hfz33_3 := blk_frozen BK105.out 3; have hfz33_4 := blk_frozen BK105.out 4) | ((with_reducible refine gate_callee (f := 37) rfl ?_); refine gl_ (some 6) Try.func37 #[.agg #[.int .i64 a0_1, .int .i64 a0_2]] ?_; (with_reducible refine (rational_Valid.calls a0_1 a0_2 false _ A2.out).mono ?_); rintro e w34 ⟨rfl, hb⟩; refine ⟨_, rfl, ?_⟩; replace BK105 := mk_ (blk_below (kk_ BK105) hb); replace HB := mk_ (below_step (bs_ HB GE105.out) hb); (try clear hb)))
  go_ret
  exact ⟨ew_, bs1_ HB GE105⟩
 subst c3
 have H1 : ((rational_Valid.f a0_3 a0_4).bind fun t107 => (if t107 = true then (if a0_2 ≤ 100 then (if a0_4 ≤ 100 then (some (decide ((mx a0_3 (wrap64 (-a0_3))) ≤ 100000))) else (some false)) else (some false)) else (some false))) = some r := by rw [if_pos rfl] at H; exact H
 clear H
 have H := H1
 clear H1
 replace H := Option.bind_eq_some_iff.mp H
 obtain ⟨t107, A40, H⟩ := H
 replace H : (if t107 = true then (if a0_2 ≤ 100 then (if a0_4 ≤ 100 then (some (decide ((mx a0_3 (wrap64 (-a0_3))) ≤ 100000))) else (some false)) else (some false)) else (some false)) = some r := H
 have A4 := mk_ A40
 clear A40
 by_cases c5 : t107 = true
 rotate_left
 ·replace c5 := Bool.eq_false_iff.mpr c5
  subst c5
  have H1 : (some false) = some r := by rw [if_neg (show ¬ (false = true) by decide)] at H; exact H
  clear H
  have H := H1
  clear H1
  obtain rfl := Option.some.inj H
  go_enter Try.func38, Try.ntmps38
  go_wp2_with (first | ((with_reducible refine gate_dst (N := 1) rfl ?_); (try (refine gate_guard (by rfl) ?_; dsimp only)); refine box_event ?hg (N := 1) ?hd (cs := #[.int .i64 a0_0, .int .i64 a0_1, .int .i64 a0_2, .int .i64 a0_3, .int .i64 a0_4]) (t := 51) ?hr ?_; (case hd => rfl); (case hg => rfl); (case hr => first | (go_simp; done) | (go_simp; rfl)); intro gb105 hg w27 hbox hb; have BK105 := mk_ (hbox); have GW105 := mk_ (bz_ hg (bb_ HB)); have GE105 := mk_ (bz_ hg (bb_ HB)); replace HB := mk_ (below_step (bb_ HB) hb); clear hb hbox hg; have hcz28_0 := bc0_ BK105.out; have hcz28_1 := bc1_ BK105.out; have hcz28_2 := bc2_ BK105.out; have hcz28_3 : w27.cell? ⟨gb105, 3, none⟩ = some (.int .i64 a0_3) := (blk_cell BK105.out 3).trans rfl; have hcz28_4 : w27.cell? ⟨gb105, 4, none⟩ = some (.int .i64 a0_4) := (blk_cell BK105.out 4).trans rfl; have hfz28_0 := blk_frozen BK105.out 0; have hfz28_1 := blk_frozen BK105.out 1; have hfz28_2 := blk_frozen BK105.out 2; have hfz28_3 := blk_frozen BK105.out 3; have hfz28_4 := blk_frozen BK105.out 4) | ((with_reducible refine gate_callee (f := 37) rfl ?_); refine gl_ (some 6) Try.func37 #[.agg #[.int .i64 a0_1, .int .i64 a0_2]] ?_; (with_reducible refine (rational_Valid.calls a0_1 a0_2 true _ A2.out).mono ?_); rintro e w29 ⟨rfl, hb⟩; refine ⟨_, rfl, ?_⟩; replace BK105 := mk_ (blk_below (kk_ BK105) hb); replace HB := mk_ (below_step (bs_ HB GE105.out) hb); (try clear hb); have hcz30_0 := bc0_ BK105.out; have hcz30_1 := bc1_ BK105.out; have hcz30_2 := bc2_ BK105.out; have hcz30_3 : w29.cell? ⟨gb105, 3, none⟩ = some (.int .i64 a0_3) := (blk_cell BK105.out 3).trans rfl; have hcz30_4 : w29.cell? ⟨gb105, 4, none⟩ = some (.int .i64 a0_4) := (blk_cell BK105.out 4).trans rfl; have hfz30_0 := blk_frozen BK105.out 0; have hfz30_1 := blk_frozen BK105.out 1; have hfz30_2 := blk_frozen BK105.out 2; have hfz30_3 := blk_frozen BK105.out 3; have hfz30_4 := blk_frozen BK105.out 4) | (go_at_call 37; (with_reducible refine (rational_Valid.calls a0_3 a0_4 false _ A4.out).mono ?_); rintro e w31 ⟨rfl, hb⟩; replace BK105 := mk_ (blk_below (kk_ BK105) hb); replace HB := mk_ (below_step (bs_ HB GE105.out) hb); (try clear hb)))
  go_ret
  exact ⟨ew_, bs1_ HB GE105⟩
 subst c5
 have H1 : (if a0_2 ≤ 100 then (if a0_4 ≤ 100 then (some (decide ((mx a0_3 (wrap64 (-a0_3))) ≤ 100000))) else (some false)) else (some false)) = some r := by rw [if_pos rfl] at H; exact H
 clear H
 have H := H1
 clear H1
 by_cases c6 : a0_2 ≤ 100
 rotate_left
 ·rw [if_neg c6] at H
  have c6b0 : decide (a0_2 ≤ 100) = false := decide_eq_false c6
  clear c6
  obtain rfl := Option.some.inj H
  go_enter Try.func38, Try.ntmps38
  go_wp2_with (first | ((with_reducible refine gate_dst (N := 1) rfl ?_); (try (refine gate_guard (by rfl) ?_; dsimp only)); refine box_event ?hg (N := 1) ?hd (cs := #[.int .i64 a0_0, .int .i64 a0_1, .int .i64 a0_2, .int .i64 a0_3, .int .i64 a0_4]) (t := 51) ?hr ?_; (case hd => rfl); (case hg => rfl); (case hr => first | (go_simp; done) | (go_simp; rfl)); intro gb105 hg w21 hbox hb; have BK105 := mk_ (hbox); have GW105 := mk_ (bz_ hg (bb_ HB)); have GE105 := mk_ (bz_ hg (bb_ HB)); replace HB := mk_ (below_step (bb_ HB) hb); clear hb hbox hg; have hcz22_0 := bc0_ BK105.out; have hcz22_1 := bc1_ BK105.out; have hcz22_2 := bc2_ BK105.out; have hcz22_3 : w21.cell? ⟨gb105, 3, none⟩ = some (.int .i64 a0_3) := (blk_cell BK105.out 3).trans rfl; have hcz22_4 : w21.cell? ⟨gb105, 4, none⟩ = some (.int .i64 a0_4) := (blk_cell BK105.out 4).trans rfl; have hfz22_0 := blk_frozen BK105.out 0; have hfz22_1 := blk_frozen BK105.out 1; have hfz22_2 := blk_frozen BK105.out 2; have hfz22_3 := blk_frozen BK105.out 3; have hfz22_4 := blk_frozen BK105.out 4) | ((with_reducible refine gate_callee (f := 37) rfl ?_); refine gl_ (some 6) Try.func37 #[.agg #[.int .i64 a0_1, .int .i64 a0_2]] ?_; (with_reducible refine (rational_Valid.calls a0_1 a0_2 true _ A2.out).mono ?_); rintro e w23 ⟨rfl, hb⟩; refine ⟨_, rfl, ?_⟩; replace BK105 := mk_ (blk_below (kk_ BK105) hb); replace HB := mk_ (below_step (bs_ HB GE105.out) hb); (try clear hb); have hcz24_0 := bc0_ BK105.out; have hcz24_1 := bc1_ BK105.out; have hcz24_2 := bc2_ BK105.out; have hcz24_3 : w23.cell? ⟨gb105, 3, none⟩ = some (.int .i64 a0_3) := (blk_cell BK105.out 3).trans rfl; have hcz24_4 : w23.cell? ⟨gb105, 4, none⟩ = some (.int .i64 a0_4) := (blk_cell BK105.out 4).trans rfl; have hfz24_0 := blk_frozen BK105.out 0; have hfz24_1 := blk_frozen BK105.out 1; have hfz24_2 := blk_frozen BK105.out 2; have hfz24_3 := blk_frozen BK105.out 3; have hfz24_4 := blk_frozen BK105.out 4) | (go_at_call 37; (with_reducible refine (rational_Valid.calls a0_3 a0_4 true _ A4.out).mono ?_); rintro e w25 ⟨rfl, hb⟩; replace BK105 := mk_ (blk_below (kk_ BK105) hb); replace HB := mk_ (below_step (bs_ HB GE105.out) hb); (try clear hb); have hcz26_0 := bc0_ BK105.out; have hcz26_1 := bc1_ BK105.out; have hcz26_2 := bc2_ BK105.out; have hcz26_3 : w25.cell? ⟨gb105, 3, none⟩ = some (.int .i64 a0_3) := (blk_cell BK105.out 3).trans rfl; have hcz26_4 : w25.cell? ⟨gb105, 4, none⟩ = some (.int .i64 a0_4) := (blk_cell BK105.out 4).trans rfl; have hfz26_0 := blk_frozen BK105.out 0; have hfz26_1 := blk_frozen BK105.out 1; have hfz26_2 := blk_frozen BK105.out 2; have hfz26_3 := blk_frozen BK105.out 3; have hfz26_4 := blk_frozen BK105.out 4))
  go_ret
  exact ⟨ew_, bs1_ HB GE105⟩
 rw [if_pos c6] at H
 have c6b0 : decide (a0_2 ≤ 100) = true := decide_eq_true c6
 clear c6
 by_cases c7 : a0_4 ≤ 100
 case' _ =>
  rw [if_pos c7] at H
  have c7b0 : decide (a0_4 ≤ 100) = true := decide_eq_true c7
  clear c7
  obtain ⟨ji8, hji8⟩ : ∃ j_ : Int, (mx a0_3 (wrap64 (-a0_3))) = j_ := ⟨_, rfl⟩
  replace H : (some (decide ((ji8) ≤ 100000))) = some r := by first | (rw [hji8] at H; exact H) | (simp only [hji8] at H ⊢; exact H)
  (try rw [hji8] at A2)
  (try rw [hji8] at A4)
  have hji8_ : (if a0_3 < (wrap64 (-a0_3)) then (wrap64 (-a0_3)) else a0_3) = ji8 := hji8
  obtain rfl := Option.some.inj H
  go_enter Try.func38, Try.ntmps38
 rotate_left
 case' _ =>
  rw [if_neg c7] at H
  have c7b0 : decide (a0_4 ≤ 100) = false := decide_eq_false c7
  clear c7
  obtain rfl := Option.some.inj H
  go_enter Try.func38, Try.ntmps38
 rotate_left
 all_goals go_wp2_with (first | ((with_reducible refine gate_dst (N := 1) rfl ?_); (try (refine gate_guard (by rfl) ?_; dsimp only)); refine box_event ?hg (N := 1) ?hd (cs := #[.int .i64 a0_0, .int .i64 a0_1, .int .i64 a0_2, .int .i64 a0_3, .int .i64 a0_4]) (t := 51) ?hr ?_; (case hd => rfl); (case hg => rfl); (case hr => first | (go_simp; done) | (go_simp; rfl)); intro gb105 hg w9 hbox hb; have BK105 := mk_ (hbox); have GW105 := mk_ (bz_ hg (bb_ HB)); have GE105 := mk_ (bz_ hg (bb_ HB)); replace HB := mk_ (below_step (bb_ HB) hb); clear hb hbox hg; have hcz10_0 := bc0_ BK105.out; have hcz10_1 := bc1_ BK105.out; have hcz10_2 := bc2_ BK105.out; have hcz10_3 : w9.cell? ⟨gb105, 3, none⟩ = some (.int .i64 a0_3) := (blk_cell BK105.out 3).trans rfl; have hcz10_4 : w9.cell? ⟨gb105, 4, none⟩ = some (.int .i64 a0_4) := (blk_cell BK105.out 4).trans rfl; have hfz10_0 := blk_frozen BK105.out 0; have hfz10_1 := blk_frozen BK105.out 1; have hfz10_2 := blk_frozen BK105.out 2; have hfz10_3 := blk_frozen BK105.out 3; have hfz10_4 := blk_frozen BK105.out 4) | ((with_reducible refine gate_callee (f := 37) rfl ?_); refine gl_ (some 6) Try.func37 #[.agg #[.int .i64 a0_1, .int .i64 a0_2]] ?_; (with_reducible refine (rational_Valid.calls a0_1 a0_2 true _ A2.out).mono ?_); rintro e w11 ⟨rfl, hb⟩; refine ⟨_, rfl, ?_⟩; replace BK105 := mk_ (blk_below (kk_ BK105) hb); replace HB := mk_ (below_step (bs_ HB GE105.out) hb); (try clear hb); have hcz12_0 := bc0_ BK105.out; have hcz12_1 := bc1_ BK105.out; have hcz12_2 := bc2_ BK105.out; have hcz12_3 : w11.cell? ⟨gb105, 3, none⟩ = some (.int .i64 a0_3) := (blk_cell BK105.out 3).trans rfl; have hcz12_4 : w11.cell? ⟨gb105, 4, none⟩ = some (.int .i64 a0_4) := (blk_cell BK105.out 4).trans rfl; have hfz12_0 := blk_frozen BK105.out 0; have hfz12_1 := blk_frozen BK105.out 1; have hfz12_2 := blk_frozen BK105.out 2; have hfz12_3 := blk_frozen BK105.out 3; have hfz12_4 := blk_frozen BK105.out 4) | (go_at_call 37; (with_reducible refine (rational_Valid.calls a0_3 a0_4 true _ A4.out).mono ?_); rintro e w13 ⟨rfl, hb⟩; replace BK105 := mk_ (blk_below (kk_ BK105) hb); replace HB := mk_ (below_step (bs_ HB GE105.out) hb); (try clear hb); have hcz14_0 := bc0_ BK105.out; have hcz14_1 := bc1_ BK105.out; have hcz14_2 := bc2_ BK105.out; have hcz14_3 : w13.cell? ⟨gb105, 3, none⟩ = some (.int .i64 a0_3) := (blk_cell BK105.out 3).trans rfl; have hcz14_4 : w13.cell? ⟨gb105, 4, none⟩ = some (.int .i64 a0_4) := (blk_cell BK105.out 4).trans rfl; have hfz14_0 := blk_frozen BK105.out 0; have hfz14_1 := blk_frozen BK105.out 1; have hfz14_2 := blk_frozen BK105.out 2; have hfz14_3 := blk_frozen BK105.out 3; have hfz14_4 := blk_frozen BK105.out 4))
 ·go_ret
  exact ⟨by first | rfl | (simp [errW_none, errW_some] <;> rfl) | (simp only [← hji8]; first | rfl | (simp [errW_none, errW_some] <;> rfl)) | (simp [*, errW_none, errW_some] <;> rfl), bs1_ HB GE105⟩
 ·go_ret
  exact ⟨ew_, bs1_ HB GE105⟩
end
section
mutual
def piecewise_Valid.j0 : Nat → List (S51) → Bool → Option (Bool)
 | 0, _, _ => none
 | k + 1, x0, x29 => if x29 = true then (some false) else (piecewise_Valid.l0 k x0 x0 (x0.length : Int) 0)
def piecewise_Valid.l0 : Nat → List (S51) → List (S51) → Int → Int → Option (Bool)
 | 0, _, _, _, _ => none
 | k + 1, x0, x30, x31, x32 => if x32 < x31 then (if 0 ≤ x32 then (if x32 < (x30.length : Int) then (if x32 > 0 then (if 0 ≤ (wrap64 (x32 - 1)) then (if (wrap64 (x32 - 1)) < (x0.length : Int) then (if ((rd_T51 x30 x32).f0) ≤ ((rd_T51 x0 (wrap64 (x32 - 1))).f0) then (some false) else ((piecewise_numbers.f ((rd_T51 x30 x32).f0) ((rd_T51 x30 x32).f1.f0) ((rd_T51 x30 x32).f1.f1) ((rd_T51 x30 x32).f2.f0) ((rd_T51 x30 x32).f2.f1)).bind fun t113 => (if t113 = true then (piecewise_Valid.l0 k x0 x30 x31 (wrap64 (x32 + 1))) else (some false)))) else (none)) else (none)) else ((piecewise_numbers.f ((rd_T51 x30 x32).f0) ((rd_T51 x30 x32).f1.f0) ((rd_T51 x30 x32).f1.f1) ((rd_T51 x30 x32).f2.f0) ((rd_T51 x30 x32).f2.f1)).bind fun t114 => (if t114 = true then (piecewise_Valid.l0 k x0 x30 x31 (wrap64 (x32 + 1))) else (some false)))) else (none)) else (none)) else (some true)
end
def piecewise_Valid.f (k : Nat) (l0 : List (S51)) : Option (Bool) := if (l0.length : Int) = 0 then (piecewise_Valid.j0 k l0 true) else (if (l0.length : Int) > 64 then (piecewise_Valid.j0 k l0 true) else (if 0 < (l0.length : Int) then (if ((rd_T51 l0 0).f0) = 0 then (if 0 ≤ (wrap64 ((l0.length : Int) - 1)) then (if (wrap64 ((l0.length : Int) - 1)) < (l0.length : Int) then (piecewise_Valid.j0 k l0 (decide (((rd_T51 l0 (wrap64 ((l0.length : Int) - 1))).f0) > 100000))) else (none)) else (none)) else (piecewise_Valid.j0 k l0 true)) else (none)))
theorem piecewise_Valid.mono_l : ∀ k, (∀ y0 y1, LeO (piecewise_Valid.j0 k y0 y1) (piecewise_Valid.j0 (k + 1) y0 y1)) ∧ (∀ y0 y1 y2 y3, LeO (piecewise_Valid.l0 k y0 y1 y2 y3) (piecewise_Valid.l0 (k + 1) y0 y1 y2 y3))
 | 0 => ⟨fun _ _ r h => by simp [piecewise_Valid.j0] at h, fun _ _ _ _ r h => by simp [piecewise_Valid.l0] at h⟩
 | k + 1 => by
  obtain ⟨ih0, ih1⟩ := piecewise_Valid.mono_l k
  refine ⟨?_, ?_⟩
  ·intro y0 y1
   unfold piecewise_Valid.j0
   repeat' first
   | (with_reducible exact ih0 _ _)
   | (with_reducible exact ih1 _ _ _ _)
   | (with_reducible exact LeO.refl _)
   | (with_reducible exact LeO.none _)
   | (with_reducible refine LeO.ite ?_ ?_)
   | (with_reducible refine LeO.bind ?_ (fun _ => ?_))
   | exact ih0 _ _
   | exact ih1 _ _ _ _
   | exact LeO.none _
   | refine LeO.ite ?_ ?_
   | refine LeO.bind ?_ (fun _ => ?_)
  ·intro y0 y1 y2 y3
   unfold piecewise_Valid.l0
   repeat' first
   | (with_reducible exact ih0 _ _)
   | (with_reducible exact ih1 _ _ _ _)
   | (with_reducible exact LeO.refl _)
   | (with_reducible exact LeO.none _)
   | (with_reducible refine LeO.ite ?_ ?_)
   | (with_reducible refine LeO.bind ?_ (fun _ => ?_))
   | exact ih0 _ _
   | exact ih1 _ _ _ _
   | exact LeO.none _
   | refine LeO.ite ?_ ?_
   | refine LeO.bind ?_ (fun _ => ?_)
theorem piecewise_Valid.mono : ∀ a0 k, LeO (piecewise_Valid.f k a0) (piecewise_Valid.f (k + 1) a0) := by
 intro a0 k
 obtain ⟨ih0, ih1⟩ := piecewise_Valid.mono_l k
 unfold piecewise_Valid.f
 repeat' first
   | (with_reducible exact ih0 _ _)
   | (with_reducible exact ih1 _ _ _ _)
   | (with_reducible exact LeO.refl _)
   | (with_reducible exact LeO.none _)
   | (with_reducible refine LeO.ite ?_ ?_)
   | (with_reducible refine LeO.bind ?_ (fun _ => ?_))
   | exact ih0 _ _
   | exact ih1 _ _ _ _
   | exact LeO.none _
   | refine LeO.ite ?_ ?_
   | refine LeO.bind ?_ (fun _ => ?_)
def piecewise_Valid.T6 : Bool × List (List Nat × List Nat) := (true, [([], []), ([0], [0]), ([1], [1]), ([2], [2]), ([3, 2], [2, 3]), ([2], [2]), ([2], [2]), ([6, 2], [2, 6]), ([5, 7, 2], [2, 5, 7]), ([8, 2], [2, 8]), ([9, 2], [2, 9]), ([4, 10, 2], [2, 4, 10]), ([2, 11], [2, 11]), ([12, 2], [12]), ([13], [13]), ([14, 13, 13], [13, 14]), ([15, 13], [13, 15]), ([13, 16], [13, 16])])
def piecewise_Valid.B6 : List Nat := [0, 1, 3, 7, 15, 7, 7, 71, 231, 487, 999, 2047, 4095, 8191, 16383, 32767, 65535, 131071]
theorem piecewise_Valid.tab6 : rtab .any (opsOf Try.f14 6) = piecewise_Valid.T6 := by kernel_rfl
theorem piecewise_Valid.bits6 : waitsOk piecewise_Valid.T6.2 piecewise_Valid.B6 = true := by kernel_rfl
theorem piecewise_Valid.calls (k : Nat) (A0 : Option Addr) (c0 : Nat) (l0 : List (S51)) (r : Bool) (w : World) (hr0 : Kd.C k51 w A0 l0.length l0) (hc0 : l0.length ≤ c0) (h : piecewise_Valid.f k l0 = some r) :
  Calls Try.prog 14 #[.slice A0 l0.length c0] w fun e w' => e = .returned (.bool r) ∧ Below w.heap.size w w' := by
 have hu51 := Try.underlying51
 have HR0 := mk_ hr0
 have HC0 := mk_ hc0
 clear hr0 hc0
 have HB := mk_ (Below.refl w.heap.size w)
 have H : (if (l0.length : Int) = 0 then (piecewise_Valid.j0 k l0 true) else (if (l0.length : Int) > 64 then (piecewise_Valid.j0 k l0 true) else (if 0 < (l0.length : Int) then (if ((rd_T51 l0 0).f0) = 0 then (if 0 ≤ (wrap64 ((l0.length : Int) - 1)) then (if (wrap64 ((l0.length : Int) - 1)) < (l0.length : Int) then (piecewise_Valid.j0 k l0 (decide (((rd_T51 l0 (wrap64 ((l0.length : Int) - 1))).f0) > 100000))) else (none)) else (none)) else (piecewise_Valid.j0 k l0 true)) else (none)))) = some r := h
 clear h
 have HC2 := mk_ H
 clear H
 go_enter Try.func14, Try.ntmps14
 go_upto_region 1 with (fail)
 go_cut [29] (fun v29 wc => ∃ (kq : Nat) (x29_1 : Bool), v29 = .bool x29_1 ∧ Aside0 (piecewise_Valid.j0 kq l0 x29_1 = some r) ∧ Aside0 (kq ≤ k) ∧ Aside0 (Below w.heap.size w wc))
 case first =>
  have H := HC2.out
  clear HC2
  by_cases c3 : (l0.length : Int) = 0
  ·rw [if_pos c3] at H
   have c3b0 : ((l0.length : Int) == 0) = true := beq_iff_eq.mpr c3
   have c3b1 : ((l0.length : Int) != 0) = false := bne_eq_false_iff_eq.mpr c3
   clear c3
   (first | rw [c3b0] | (simp only [i64_w, i32_w]; rw [c3b0]) | skip)
   have H' := mk_ H
   clear H
   go_wp2
   go_meet
   case rel => exact ⟨_, (true), sd_, H', ⟨by first | omega | exact Nat.le_refl _⟩, ⟨bb_ HB⟩⟩
  rw [if_neg c3] at H
  have c3b0 : ((l0.length : Int) == 0) = false := beq_eq_false_iff_ne.mpr c3
  have c3b1 : ((l0.length : Int) != 0) = true := bne_iff_ne.mpr c3
  have c3b2 : ¬ (l0 = []) := fun h_ => c3 (by rw [h_]; rfl)
  (first | rw [c3b0] | (simp only [i64_w, i32_w]; rw [c3b0]) | skip)
  by_cases c4 : (l0.length : Int) > 64
  ·rw [if_pos c4] at H
   have c4b0 : decide (64 < (l0.length : Int)) = true := decide_eq_true c4
   have c4b1 : decide (64 < l0.length) = true := decide_eq_true (by omega)
   clear c4
   have H' := mk_ H
   clear H
   go_wp2
   go_meet
   case rel => exact ⟨_, (true), sd_, H', ⟨by first | omega | exact Nat.le_refl _⟩, ⟨bb_ HB⟩⟩
  rw [if_neg c4] at H
  have c4b0 : decide (64 < (l0.length : Int)) = false := decide_eq_false c4
  have c4b1 : decide (64 < l0.length) = false := decide_eq_false (by omega)
  clear c4
  by_cases c5 : 0 < (l0.length : Int)
  rotate_left
  ·rw [if_neg c5] at H
   exact absurd H (by simp)
  rw [if_pos c5] at H
  have c5b0 : decide (0 < (l0.length : Int)) = true := decide_eq_true c5
  have c5b1 : decide (0 < l0.length) = true := decide_eq_true (by omega)
  clear c5
  by_cases c6 : ((rd_T51 l0 0).f0) = 0
  rotate_left
  ·rw [if_neg c6] at H
   have c6b0 : (((rd_T51 l0 0).f0) == 0) = false := beq_eq_false_iff_ne.mpr c6
   have c6b1 : (((rd_T51 l0 0).f0) != 0) = true := bne_iff_ne.mpr c6
   have H' := mk_ H
   clear H
   have p108 : 0 ≤ (0 : Int) := (by omega)
   have q108 : 0 < (l0.length : Int) := od_
   obtain ⟨ad108, e108, hx108_0, hx108_1, hx108_2, hx108_3, hx108_4⟩ := at_T51 HR0.out 0 p108 q108
   cases e108
   have qi108 : (0 < l0.length) = True := eq_true (by omega)
   (try rw [show ((0 : Int)).toNat = 0 from rfl] at hx108_0)
   (try rw [show 0 * 5 = 0 from rfl] at hx108_0)
   (try rw [Addr.add_zero'] at hx108_0)
   (try rw [show ((0 : Int)).toNat = 0 from rfl] at hx108_1)
   (try rw [show 0 * 5 = 0 from rfl] at hx108_1)
   (try rw [Addr.add_zero'] at hx108_1)
   (try rw [show ((0 : Int)).toNat = 0 from rfl] at hx108_2)
   (try rw [show 0 * 5 = 0 from rfl] at hx108_2)
   (try rw [Addr.add_zero'] at hx108_2)
   (try rw [show ((0 : Int)).toNat = 0 from rfl] at hx108_3)
   (try rw [show 0 * 5 = 0 from rfl] at hx108_3)
   (try rw [Addr.add_zero'] at hx108_3)
   (try rw [show ((0 : Int)).toNat = 0 from rfl] at hx108_4)
   (try rw [show 0 * 5 = 0 from rfl] at hx108_4)
   (try rw [Addr.add_zero'] at hx108_4)
   replace hx108_0 := cb_ HB hx108_0
   replace hx108_1 := cb_ HB hx108_1
   replace hx108_2 := cb_ HB hx108_2
   replace hx108_3 := cb_ HB hx108_3
   replace hx108_4 := cb_ HB hx108_4
   replace p108 := eq_true p108
   replace q108 := eq_true q108
   go_wp2
   go_meet
   case rel => exact ⟨_, (true), sd_, H', ⟨by first | omega | exact Nat.le_refl _⟩, ⟨bb_ HB⟩⟩
  rw [if_pos c6] at H
  have c6b0 : (((rd_T51 l0 0).f0) == 0) = true := beq_iff_eq.mpr c6
  have c6b1 : (((rd_T51 l0 0).f0) != 0) = false := bne_eq_false_iff_eq.mpr c6
  clear c6
  obtain ⟨ji7, hji7⟩ : ∃ j_ : Int, (wrap64 ((l0.length : Int) - 1)) = j_ := ⟨_, rfl⟩
  replace H : (if 0 ≤ (ji7) then (if (ji7) < (l0.length : Int) then (piecewise_Valid.j0 k l0 (decide (((rd_T51 l0 (ji7)).f0) > 100000))) else (none)) else (none)) = some r := by first | (rw [hji7] at H; exact H) | (simp only [hji7] at H ⊢; exact H)
  have hji7w : (IntKind.i64.wrap ((l0.length : Int) - 1)) = ji7 := (i64_w _).trans hji7
  by_cases c8 : 0 ≤ (ji7)
  rotate_left
  ·rw [if_neg c8] at H
   exact absurd H (by simp)
  rw [if_pos c8] at H
  have c8b0 : decide (0 ≤ (ji7)) = true := decide_eq_true c8
  clear c8
  by_cases c9 : (ji7) < (l0.length : Int)
  rotate_left
  ·rw [if_neg c9] at H
   exact absurd H (by simp)
  rw [if_pos c9] at H
  have c9b0 : decide ((ji7) < (l0.length : Int)) = true := decide_eq_true c9
  clear c9
  have H' := mk_ H
  clear H
  have p108 : 0 ≤ (0 : Int) := (by omega)
  have q108 : 0 < (l0.length : Int) := od_
  obtain ⟨ad108, e108, hx108_0, hx108_1, hx108_2, hx108_3, hx108_4⟩ := at_T51 HR0.out 0 p108 q108
  cases e108
  have qi108 : (0 < l0.length) = True := eq_true (by omega)
  (try rw [show ((0 : Int)).toNat = 0 from rfl] at hx108_0)
  (try rw [show 0 * 5 = 0 from rfl] at hx108_0)
  (try rw [Addr.add_zero'] at hx108_0)
  (try rw [show ((0 : Int)).toNat = 0 from rfl] at hx108_1)
  (try rw [show 0 * 5 = 0 from rfl] at hx108_1)
  (try rw [Addr.add_zero'] at hx108_1)
  (try rw [show ((0 : Int)).toNat = 0 from rfl] at hx108_2)
  (try rw [show 0 * 5 = 0 from rfl] at hx108_2)
  (try rw [Addr.add_zero'] at hx108_2)
  (try rw [show ((0 : Int)).toNat = 0 from rfl] at hx108_3)
  (try rw [show 0 * 5 = 0 from rfl] at hx108_3)
  (try rw [Addr.add_zero'] at hx108_3)
  (try rw [show ((0 : Int)).toNat = 0 from rfl] at hx108_4)
  (try rw [show 0 * 5 = 0 from rfl] at hx108_4)
  (try rw [Addr.add_zero'] at hx108_4)
  replace hx108_0 := cb_ HB hx108_0
  replace hx108_1 := cb_ HB hx108_1
  replace hx108_2 := cb_ HB hx108_2
  replace hx108_3 := cb_ HB hx108_3
  replace hx108_4 := cb_ HB hx108_4
  replace p108 := eq_true p108
  replace q108 := eq_true q108
  have p109 : 0 ≤ ((ji7) : Int) := od_
  have q109 : (ji7) < (l0.length : Int) := od_
  obtain ⟨ad109, e109, hx109_0, hx109_1, hx109_2, hx109_3, hx109_4⟩ := at_T51 HR0.out (ji7) p109 q109
  obtain rfl : ad108 = ad109 := (by injection e109)
  replace hx109_0 := cb_ HB hx109_0
  replace hx109_1 := cb_ HB hx109_1
  replace hx109_2 := cb_ HB hx109_2
  replace hx109_3 := cb_ HB hx109_3
  replace hx109_4 := cb_ HB hx109_4
  replace p109 := eq_true p109
  replace q109 := eq_true q109
  go_wp2
  go_meet
  case rel => exact ⟨_, (decide (((rd_T51 l0 (ji7)).f0) > 100000)), (by first | rfl | (simp; done) | (simp only [← hji7] <;> (first | rfl | simp)) | (simp [*]; done)), H', ⟨by first | omega | exact Nat.le_refl _⟩, ⟨bb_ HB⟩⟩
 case rest =>
  clear HC2
  obtain ⟨kq, x29_1, rfl, HA, HJ1, HB⟩ := hcut
  cases kq with
  | zero => exact absurd HA.out (by simp [piecewise_Valid.j0])
  | succ kj1 =>
   have H := HA.out
   clear HA
   simp only [piecewise_Valid.j0] at H
   by_cases c10 : x29_1 = true
   ·subst c10
    have H1 : (some false) = some r := by rw [if_pos rfl] at H; exact H
    clear H
    have H := H1
    clear H1
    obtain rfl := Option.some.inj H
    go_wp2
    go_ret
    exact ⟨ew_, bb_ HB⟩
   replace c10 := Bool.eq_false_iff.mpr c10
   subst c10
   have H1 : (piecewise_Valid.l0 kj1 l0 l0 (l0.length : Int) 0) = some r := by rw [if_neg (show ¬ (false = true) by decide)] at H; exact H
   clear H
   have H := H1
   clear H1
   have H' := mk_ H
   clear H
   go_wp2
   go_loopg [32] kj1 (fun kq v32 w' => ∃ (x32_2 : Int), v32 = .int .i64 x32_2 ∧ Aside0 (piecewise_Valid.l0 kq l0 l0 (l0.length : Int) x32_2 = some r) ∧ Aside0 (kq ≤ kj1) ∧ Aside0 (Below w.heap.size w w'))
   case atStart => exact ⟨(0), sd_, H', ⟨Nat.le_refl _⟩, ⟨bb_ HB⟩⟩
   case round =>
    clear H'
    obtain ⟨x32_2, rfl, HA, HK2, HB⟩ := hrel
    cases gk with
    | zero => exact absurd HA.out (by simp [piecewise_Valid.l0])
    | succ k2 =>
     have H := HA.out
     clear HA
     simp only [piecewise_Valid.l0] at H
     by_cases c11 : x32_2 < (l0.length : Int)
     rotate_left
     ·rw [if_neg c11] at H
      have c11b0 : decide (x32_2 < (l0.length : Int)) = false := decide_eq_false c11
      clear c11
      obtain rfl := Option.some.inj H
      go_wp2
      go_ret
      exact ⟨ew_, bb_ HB⟩
     rw [if_pos c11] at H
     have c11b0 : decide (x32_2 < (l0.length : Int)) = true := decide_eq_true c11
     clear c11
     by_cases c12 : 0 ≤ x32_2
     rotate_left
     ·rw [if_neg c12] at H
      exact absurd H (by simp)
     rw [if_pos c12] at H
     have c12b0 : decide (0 ≤ x32_2) = true := decide_eq_true c12
     clear c12
     by_cases c13 : x32_2 < (l0.length : Int)
     rotate_left
     ·rw [if_neg c13] at H
      exact absurd H (by simp)
     rw [if_pos c13] at H
     have c13b0 : decide (x32_2 < (l0.length : Int)) = true := decide_eq_true c13
     clear c13
     by_cases c14 : x32_2 > 0
     rotate_left
     ·rw [if_neg c14] at H
      have c14b0 : decide (0 < x32_2) = false := decide_eq_false c14
      clear c14
      replace H := Option.bind_eq_some_iff.mp H
      obtain ⟨t114, A350, H⟩ := H
      replace H : (if t114 = true then (piecewise_Valid.l0 k2 l0 l0 (l0.length : Int) (wrap64 (x32_2 + 1))) else (some false)) = some r := H
      have A35 := mk_ A350
      clear A350
      by_cases c36 : t114 = true
      case' _ =>
       subst c36
       have H1 : (piecewise_Valid.l0 k2 l0 l0 (l0.length : Int) (wrap64 (x32_2 + 1))) = some r := by rw [if_pos rfl] at H; exact H
       clear H
       have H := H1
       clear H1
       have H' := mk_ H
       clear H
       have p110 : 0 ≤ (x32_2 : Int) := od_
       have q110 : x32_2 < (l0.length : Int) := od_
       obtain ⟨ad110, e110, hx110_0, hx110_1, hx110_2, hx110_3, hx110_4⟩ := at_T51 HR0.out x32_2 p110 q110
       cases e110
       replace hx110_0 := cb_ HB hx110_0
       replace hx110_1 := cb_ HB hx110_1
       replace hx110_2 := cb_ HB hx110_2
       replace hx110_3 := cb_ HB hx110_3
       replace hx110_4 := cb_ HB hx110_4
       replace p110 := eq_true p110
       replace q110 := eq_true q110
      rotate_left
      case' _ =>
       replace c36 := Bool.eq_false_iff.mpr c36
       subst c36
       have H1 : (some false) = some r := by rw [if_neg (show ¬ (false = true) by decide)] at H; exact H
       clear H
       have H := H1
       clear H1
       obtain rfl := Option.some.inj H
       have p110 : 0 ≤ (x32_2 : Int) := od_
       have q110 : x32_2 < (l0.length : Int) := od_
       obtain ⟨ad110, e110, hx110_0, hx110_1, hx110_2, hx110_3, hx110_4⟩ := at_T51 HR0.out x32_2 p110 q110
       cases e110
       replace hx110_0 := cb_ HB hx110_0
       replace hx110_1 := cb_ HB hx110_1
       replace hx110_2 := cb_ HB hx110_2
       replace hx110_3 := cb_ HB hx110_3
       replace hx110_4 := cb_ HB hx110_4
       replace p110 := eq_true p110
       replace q110 := eq_true q110
      rotate_left
      all_goals try go_wp2_with (first | ((with_reducible refine gate_dst (N := 4) rfl ?_); (try (refine gate_guard (by rfl) ?_; dsimp only)); refine box_event ?hg (N := 4) ?hd (cs := #[.int .i64 0, .int .i64 0, .int .i64 0, .int .i64 0, .int .i64 0]) (t := 51) ?hr ?_; (case hd => rfl); (case hg => rfl); (case hr => first | (go_simp; done) | (go_simp; rfl)); intro gb111 hg w37 hbox hb; have BK111 := mk_ (hbox); have GW111 := mk_ (bz_ hg (bb_ HB)); have GE111 := mk_ (bz_ hg (bb_ HB)); replace HB := mk_ (below_step (bb_ HB) hb); clear hb hbox hg; have hcz38_0 := bc0_ BK111.out; have hcz38_1 := bc1_ BK111.out; have hcz38_2 := bc2_ BK111.out; have hcz38_3 : w37.cell? ⟨gb111, 3, none⟩ = some (.int .i64 0) := (blk_cell BK111.out 3).trans rfl; have hcz38_4 : w37.cell? ⟨gb111, 4, none⟩ = some (.int .i64 0) := (blk_cell BK111.out 4).trans rfl; have hfz38_0 := blk_frozen BK111.out 0; have hfz38_1 := blk_frozen BK111.out 1; have hfz38_2 := blk_frozen BK111.out 2; have hfz38_3 := blk_frozen BK111.out 3; have hfz38_4 := blk_frozen BK111.out 4))
      ·have n0_ : Aside0 ((((((w37.setCell ⟨gb111, 0, none⟩ (.int .i64 ((rd_T51 l0 x32_2).f0))).setCell ⟨gb111, 1, none⟩ (.int .i64 ((rd_T51 l0 x32_2).f1.f0))).setCell ⟨gb111, 2, none⟩ (.int .i64 ((rd_T51 l0 x32_2).f1.f1))).setCell ⟨gb111, 3, none⟩ (.int .i64 ((rd_T51 l0 x32_2).f2.f0))).setCell ⟨gb111, 4, none⟩ (.int .i64 ((rd_T51 l0 x32_2).f2.f1))).heap[gb111]? = some (.cells #[.int .i64 ((rd_T51 l0 x32_2).f0), .int .i64 ((rd_T51 l0 x32_2).f1.f0), .int .i64 ((rd_T51 l0 x32_2).f1.f1), .int .i64 ((rd_T51 l0 x32_2).f2.f0), .int .i64 ((rd_T51 l0 x32_2).f2.f1)] 51 (0, 0))) := ⟨by (with_reducible repeat (first | refine blk_drewN ?_ _ | refine blk_drew ?_ | refine blk_alloc ?_ _)); refine blk_put (cs := #[.int .i64 ((rd_T51 l0 x32_2).f0), .int .i64 ((rd_T51 l0 x32_2).f1.f0), .int .i64 ((rd_T51 l0 x32_2).f1.f1), .int .i64 ((rd_T51 l0 x32_2).f2.f0), .int .i64 0]) ?_ 4 _ rfl; (with_reducible repeat (first | refine blk_drewN ?_ _ | refine blk_drew ?_ | refine blk_alloc ?_ _)); refine blk_put (cs := #[.int .i64 ((rd_T51 l0 x32_2).f0), .int .i64 ((rd_T51 l0 x32_2).f1.f0), .int .i64 ((rd_T51 l0 x32_2).f1.f1), .int .i64 0, .int .i64 0]) ?_ 3 _ rfl; (with_reducible repeat (first | refine blk_drewN ?_ _ | refine blk_drew ?_ | refine blk_alloc ?_ _)); refine blk_put (cs := #[.int .i64 ((rd_T51 l0 x32_2).f0), .int .i64 ((rd_T51 l0 x32_2).f1.f0), .int .i64 0, .int .i64 0, .int .i64 0]) ?_ 2 _ rfl; (with_reducible repeat (first | refine blk_drewN ?_ _ | refine blk_drew ?_ | refine blk_alloc ?_ _)); refine blk_put (cs := #[.int .i64 ((rd_T51 l0 x32_2).f0), .int .i64 0, .int .i64 0, .int .i64 0, .int .i64 0]) ?_ 1 _ rfl; (with_reducible repeat (first | refine blk_drewN ?_ _ | refine blk_drew ?_ | refine blk_alloc ?_ _)); refine blk_put (cs := #[.int .i64 0, .int .i64 0, .int .i64 0, .int .i64 0, .int .i64 0]) ?_ 0 _ rfl; (with_reducible repeat (first | refine blk_drewN ?_ _ | refine blk_drew ?_ | refine blk_alloc ?_ _)); exact BK111.out⟩
       have n1_ : Aside0 (Below w.heap.size w (((((w37.setCell ⟨gb111, 0, none⟩ (.int .i64 ((rd_T51 l0 x32_2).f0))).setCell ⟨gb111, 1, none⟩ (.int .i64 ((rd_T51 l0 x32_2).f1.f0))).setCell ⟨gb111, 2, none⟩ (.int .i64 ((rd_T51 l0 x32_2).f1.f1))).setCell ⟨gb111, 3, none⟩ (.int .i64 ((rd_T51 l0 x32_2).f2.f0))).setCell ⟨gb111, 4, none⟩ (.int .i64 ((rd_T51 l0 x32_2).f2.f1)))) := ⟨bs1_ HB GE111⟩
       (try clear BK111)
       (try clear HB)
       generalize (((((w37.setCell ⟨gb111, 0, none⟩ (.int .i64 ((rd_T51 l0 x32_2).f0))).setCell ⟨gb111, 1, none⟩ (.int .i64 ((rd_T51 l0 x32_2).f1.f0))).setCell ⟨gb111, 2, none⟩ (.int .i64 ((rd_T51 l0 x32_2).f1.f1))).setCell ⟨gb111, 3, none⟩ (.int .i64 ((rd_T51 l0 x32_2).f2.f0))).setCell ⟨gb111, 4, none⟩ (.int .i64 ((rd_T51 l0 x32_2).f2.f1))) = w39 at n0_ n1_ ⊢
       have BK111 := n0_
       have HB := n1_
       clear n0_ n1_
       replace BK111 := mk_ (blk_drew BK111.out)
       replace HB := mk_ (below_drew1 HB.out)
       refine start_ (n := 18) (S := fun w' => w'.cell? ⟨gb111, 0, none⟩ = some (.int .i64 ((rd_T51 l0 x32_2).f0)) ∧ w'.cell? ⟨gb111, 1, none⟩ = some (.int .i64 ((rd_T51 l0 x32_2).f1.f0)) ∧ w'.cell? ⟨gb111, 2, none⟩ = some (.int .i64 ((rd_T51 l0 x32_2).f1.f1)) ∧ w'.cell? ⟨gb111, 3, none⟩ = some (.int .i64 ((rd_T51 l0 x32_2).f2.f0)) ∧ w'.cell? ⟨gb111, 4, none⟩ = some (.int .i64 ((rd_T51 l0 x32_2).f2.f1))) (ds := []) #[n_, n_, n_, n_, n_, n_, n_, n_, n_, n_, n_, n_, n_, n_, n_, n_, n_, n_] (by kernel_rfl) rfl rfl ⟨(blk_cell BK111.out 0).trans rfl, (blk_cell BK111.out 1).trans rfl, (blk_cell BK111.out 2).trans rfl, (blk_cell BK111.out 3).trans rfl, (blk_cell BK111.out 4).trans rfl⟩ (fun hHeld => ?_); refine with_tabW piecewise_Valid.tab6 piecewise_Valid.bits6 (fun HT_ HW_ => ?_)
       generalize w39.drew = w40 at BK111 HB hHeld ⊢
       refine pu_ 0 37 (w_ 18 1) rfl HT_ ?_
       refine pu_ 1 38 (w_ 18 3) rfl HT_ ?_
       refine pu_ 2 39 (w_ 18 7) rfl HT_ ?_
       refine pn_ 3 40 (w_ 18 15) rfl HT_ ?_
       refine pn_ 4 41 (w_ 18 31) rfl HT_ ?_
       refine pn_ 5 42 (w_ 18 63) rfl HT_ ?_
       refine pn_ 6 43 (w_ 18 127) rfl HT_ ?_
       refine pn_ 7 44 (w_ 18 255) rfl HT_ ?_
       refine pn_ 8 45 (w_ 18 511) rfl HT_ ?_
       refine pn_ 9 46 (w_ 18 1023) rfl HT_ ?_
       refine pn_ 10 47 (w_ 18 2047) rfl HT_ ?_
       refine pn_ 11 48 (w_ 18 4095) rfl HT_ ?_
       refine pu_ 12 49 (w_ 18 8191) rfl HT_ ?_
       refine pu_ 13 50 (w_ 18 16383) rfl HT_ ?_
       refine ta_ 14 51 (w_ 18 32767) rfl HT_ HW_ hHeld (by rintro w' ⟨s0, s1, s2, s3, s4⟩; go_simp; with_reducible rfl) ?_
       refine one_ (i := 15) (N := some 52) (w_ 18 65535) rfl rfl (one_of HT_.out (by kernel_rfl)) (by decide) (fun K hK => ?_)
       refine goes_ Try.func38 (by kernel_rfl) rfl #[.agg #[.int .i64 ((rd_T51 l0 x32_2).f0), .int .i64 ((rd_T51 l0 x32_2).f1.f0), .int .i64 ((rd_T51 l0 x32_2).f1.f1), .int .i64 ((rd_T51 l0 x32_2).f2.f0), .int .i64 ((rd_T51 l0 x32_2).f2.f1)]] (by rfl) rfl rfl (by (try simp only [List.map_toArray, List.map_cons, List.map_nil]); first | done | rfl | (simp only [List.length_drop, List.length_take]; rfl)) ?_
       with_reducible refine (piecewise_numbers.calls ((rd_T51 l0 x32_2).f0) ((rd_T51 l0 x32_2).f1.f0) ((rd_T51 l0 x32_2).f1.f1) ((rd_T51 l0 x32_2).f2.f0) ((rd_T51 l0 x32_2).f2.f1) true _ A35.out).mono ?_
       rintro e w41 ⟨rfl, hb⟩
       refine ⟨_, rfl, ?_⟩
       replace BK111 := mk_ (blk_below (kk_ BK111) hb)
       replace HB := mk_ (below_step (bs_ HB GE111.out) hb)
       (try clear hb)
       refine hK.out _ _ ⟨(blk_cell BK111.out 0).trans rfl, (blk_cell BK111.out 1).trans rfl, (blk_cell BK111.out 2).trans rfl, (blk_cell BK111.out 3).trans rfl, (blk_cell BK111.out 4).trans rfl⟩ (fun hHeld => ?_)
       clear hK K
       refine norm_ (a' := ?_) ?_ ?_
       rotate_left
       ·show Act.put _ (some 52) _ = _
        simp only [Act.put, sI_, s0_, sS_, i64_w, i32_w]
        rfl
       refine pu_ 16 53 (w_ 18 131071) rfl HT_ ?_
       refine pu_ 17 54 (w_ 18 262143) rfl HT_ ?_
       refine done_ (done_of HT_.out (by kernel_rfl)) ?_
       try go_wp2
       go_roundg k2
       case measure => have := HJ1.out; have := HK2.out; omega
       case rel => exact ⟨(wrap64 (x32_2 + 1)), sd_, H', ⟨by have := HJ1.out; have := HK2.out; omega⟩, ⟨bs1_ HB GE111⟩⟩
      ·have n0_ : Aside0 ((((((w37.setCell ⟨gb111, 0, none⟩ (.int .i64 ((rd_T51 l0 x32_2).f0))).setCell ⟨gb111, 1, none⟩ (.int .i64 ((rd_T51 l0 x32_2).f1.f0))).setCell ⟨gb111, 2, none⟩ (.int .i64 ((rd_T51 l0 x32_2).f1.f1))).setCell ⟨gb111, 3, none⟩ (.int .i64 ((rd_T51 l0 x32_2).f2.f0))).setCell ⟨gb111, 4, none⟩ (.int .i64 ((rd_T51 l0 x32_2).f2.f1))).heap[gb111]? = some (.cells #[.int .i64 ((rd_T51 l0 x32_2).f0), .int .i64 ((rd_T51 l0 x32_2).f1.f0), .int .i64 ((rd_T51 l0 x32_2).f1.f1), .int .i64 ((rd_T51 l0 x32_2).f2.f0), .int .i64 ((rd_T51 l0 x32_2).f2.f1)] 51 (0, 0))) := ⟨by (with_reducible repeat (first | refine blk_drewN ?_ _ | refine blk_drew ?_ | refine blk_alloc ?_ _)); refine blk_put (cs := #[.int .i64 ((rd_T51 l0 x32_2).f0), .int .i64 ((rd_T51 l0 x32_2).f1.f0), .int .i64 ((rd_T51 l0 x32_2).f1.f1), .int .i64 ((rd_T51 l0 x32_2).f2.f0), .int .i64 0]) ?_ 4 _ rfl; (with_reducible repeat (first | refine blk_drewN ?_ _ | refine blk_drew ?_ | refine blk_alloc ?_ _)); refine blk_put (cs := #[.int .i64 ((rd_T51 l0 x32_2).f0), .int .i64 ((rd_T51 l0 x32_2).f1.f0), .int .i64 ((rd_T51 l0 x32_2).f1.f1), .int .i64 0, .int .i64 0]) ?_ 3 _ rfl; (with_reducible repeat (first | refine blk_drewN ?_ _ | refine blk_drew ?_ | refine blk_alloc ?_ _)); refine blk_put (cs := #[.int .i64 ((rd_T51 l0 x32_2).f0), .int .i64 ((rd_T51 l0 x32_2).f1.f0), .int .i64 0, .int .i64 0, .int .i64 0]) ?_ 2 _ rfl; (with_reducible repeat (first | refine blk_drewN ?_ _ | refine blk_drew ?_ | refine blk_alloc ?_ _)); refine blk_put (cs := #[.int .i64 ((rd_T51 l0 x32_2).f0), .int .i64 0, .int .i64 0, .int .i64 0, .int .i64 0]) ?_ 1 _ rfl; (with_reducible repeat (first | refine blk_drewN ?_ _ | refine blk_drew ?_ | refine blk_alloc ?_ _)); refine blk_put (cs := #[.int .i64 0, .int .i64 0, .int .i64 0, .int .i64 0, .int .i64 0]) ?_ 0 _ rfl; (with_reducible repeat (first | refine blk_drewN ?_ _ | refine blk_drew ?_ | refine blk_alloc ?_ _)); exact BK111.out⟩
       have n1_ : Aside0 (Below w.heap.size w (((((w37.setCell ⟨gb111, 0, none⟩ (.int .i64 ((rd_T51 l0 x32_2).f0))).setCell ⟨gb111, 1, none⟩ (.int .i64 ((rd_T51 l0 x32_2).f1.f0))).setCell ⟨gb111, 2, none⟩ (.int .i64 ((rd_T51 l0 x32_2).f1.f1))).setCell ⟨gb111, 3, none⟩ (.int .i64 ((rd_T51 l0 x32_2).f2.f0))).setCell ⟨gb111, 4, none⟩ (.int .i64 ((rd_T51 l0 x32_2).f2.f1)))) := ⟨bs1_ HB GE111⟩
       (try clear BK111)
       (try clear HB)
       generalize (((((w37.setCell ⟨gb111, 0, none⟩ (.int .i64 ((rd_T51 l0 x32_2).f0))).setCell ⟨gb111, 1, none⟩ (.int .i64 ((rd_T51 l0 x32_2).f1.f0))).setCell ⟨gb111, 2, none⟩ (.int .i64 ((rd_T51 l0 x32_2).f1.f1))).setCell ⟨gb111, 3, none⟩ (.int .i64 ((rd_T51 l0 x32_2).f2.f0))).setCell ⟨gb111, 4, none⟩ (.int .i64 ((rd_T51 l0 x32_2).f2.f1))) = w44 at n0_ n1_ ⊢
       have BK111 := n0_
       have HB := n1_
       clear n0_ n1_
       replace BK111 := mk_ (blk_drew BK111.out)
       replace HB := mk_ (below_drew1 HB.out)
       refine start_ (n := 18) (S := fun w' => w'.cell? ⟨gb111, 0, none⟩ = some (.int .i64 ((rd_T51 l0 x32_2).f0)) ∧ w'.cell? ⟨gb111, 1, none⟩ = some (.int .i64 ((rd_T51 l0 x32_2).f1.f0)) ∧ w'.cell? ⟨gb111, 2, none⟩ = some (.int .i64 ((rd_T51 l0 x32_2).f1.f1)) ∧ w'.cell? ⟨gb111, 3, none⟩ = some (.int .i64 ((rd_T51 l0 x32_2).f2.f0)) ∧ w'.cell? ⟨gb111, 4, none⟩ = some (.int .i64 ((rd_T51 l0 x32_2).f2.f1))) (ds := []) #[n_, n_, n_, n_, n_, n_, n_, n_, n_, n_, n_, n_, n_, n_, n_, n_, n_, n_] (by kernel_rfl) rfl rfl ⟨(blk_cell BK111.out 0).trans rfl, (blk_cell BK111.out 1).trans rfl, (blk_cell BK111.out 2).trans rfl, (blk_cell BK111.out 3).trans rfl, (blk_cell BK111.out 4).trans rfl⟩ (fun hHeld => ?_); refine with_tabW piecewise_Valid.tab6 piecewise_Valid.bits6 (fun HT_ HW_ => ?_)
       generalize w44.drew = w45 at BK111 HB hHeld ⊢
       refine pu_ 0 37 (w_ 18 1) rfl HT_ ?_
       refine pu_ 1 38 (w_ 18 3) rfl HT_ ?_
       refine pu_ 2 39 (w_ 18 7) rfl HT_ ?_
       refine pn_ 3 40 (w_ 18 15) rfl HT_ ?_
       refine pn_ 4 41 (w_ 18 31) rfl HT_ ?_
       refine pn_ 5 42 (w_ 18 63) rfl HT_ ?_
       refine pn_ 6 43 (w_ 18 127) rfl HT_ ?_
       refine pn_ 7 44 (w_ 18 255) rfl HT_ ?_
       refine pn_ 8 45 (w_ 18 511) rfl HT_ ?_
       refine pn_ 9 46 (w_ 18 1023) rfl HT_ ?_
       refine pn_ 10 47 (w_ 18 2047) rfl HT_ ?_
       refine pn_ 11 48 (w_ 18 4095) rfl HT_ ?_
       refine pu_ 12 49 (w_ 18 8191) rfl HT_ ?_
       refine pu_ 13 50 (w_ 18 16383) rfl HT_ ?_
       refine ta_ 14 51 (w_ 18 32767) rfl HT_ HW_ hHeld (by rintro w' ⟨s0, s1, s2, s3, s4⟩; go_simp; with_reducible rfl) ?_
       refine one_ (i := 15) (N := some 52) (w_ 18 65535) rfl rfl (one_of HT_.out (by kernel_rfl)) (by decide) (fun K hK => ?_)
       refine goes_ Try.func38 (by kernel_rfl) rfl #[.agg #[.int .i64 ((rd_T51 l0 x32_2).f0), .int .i64 ((rd_T51 l0 x32_2).f1.f0), .int .i64 ((rd_T51 l0 x32_2).f1.f1), .int .i64 ((rd_T51 l0 x32_2).f2.f0), .int .i64 ((rd_T51 l0 x32_2).f2.f1)]] (by rfl) rfl rfl (by (try simp only [List.map_toArray, List.map_cons, List.map_nil]); first | done | rfl | (simp only [List.length_drop, List.length_take]; rfl)) ?_
       with_reducible refine (piecewise_numbers.calls ((rd_T51 l0 x32_2).f0) ((rd_T51 l0 x32_2).f1.f0) ((rd_T51 l0 x32_2).f1.f1) ((rd_T51 l0 x32_2).f2.f0) ((rd_T51 l0 x32_2).f2.f1) false _ A35.out).mono ?_
       rintro e w46 ⟨rfl, hb⟩
       refine ⟨_, rfl, ?_⟩
       replace BK111 := mk_ (blk_below (kk_ BK111) hb)
       replace HB := mk_ (below_step (bs_ HB GE111.out) hb)
       (try clear hb)
       refine hK.out _ _ ⟨(blk_cell BK111.out 0).trans rfl, (blk_cell BK111.out 1).trans rfl, (blk_cell BK111.out 2).trans rfl, (blk_cell BK111.out 3).trans rfl, (blk_cell BK111.out 4).trans rfl⟩ (fun hHeld => ?_)
       clear hK K
       refine norm_ (a' := ?_) ?_ ?_
       rotate_left
       ·show Act.put _ (some 52) _ = _
        simp only [Act.put, sI_, s0_, sS_, i64_w, i32_w]
        rfl
       refine pu_ 16 53 (w_ 18 131071) rfl HT_ ?_
       refine pu_ 17 54 (w_ 18 262143) rfl HT_ ?_
       refine done_ (done_of HT_.out (by kernel_rfl)) ?_
       try go_wp2
       go_ret
       exact ⟨ew_, bs1_ HB GE111⟩
     rw [if_pos c14] at H
     have c14b0 : decide (0 < x32_2) = true := decide_eq_true c14
     clear c14
     obtain ⟨ji15, hji15⟩ : ∃ j_ : Int, (wrap64 (x32_2 - 1)) = j_ := ⟨_, rfl⟩
     replace H : (if 0 ≤ (ji15) then (if (ji15) < (l0.length : Int) then (if ((rd_T51 l0 x32_2).f0) ≤ ((rd_T51 l0 (ji15)).f0) then (some false) else ((piecewise_numbers.f ((rd_T51 l0 x32_2).f0) ((rd_T51 l0 x32_2).f1.f0) ((rd_T51 l0 x32_2).f1.f1) ((rd_T51 l0 x32_2).f2.f0) ((rd_T51 l0 x32_2).f2.f1)).bind fun t113 => (if t113 = true then (piecewise_Valid.l0 k2 l0 l0 (l0.length : Int) (wrap64 (x32_2 + 1))) else (some false)))) else (none)) else (none)) = some r := by first | (rw [hji15] at H; exact H) | (simp only [hji15] at H ⊢; exact H)
     have hji15w : (IntKind.i64.wrap (x32_2 - 1)) = ji15 := (i64_w _).trans hji15
     by_cases c16 : 0 ≤ (ji15)
     rotate_left
     ·rw [if_neg c16] at H
      exact absurd H (by simp)
     rw [if_pos c16] at H
     have c16b0 : decide (0 ≤ (ji15)) = true := decide_eq_true c16
     clear c16
     by_cases c17 : (ji15) < (l0.length : Int)
     rotate_left
     ·rw [if_neg c17] at H
      exact absurd H (by simp)
     rw [if_pos c17] at H
     have c17b0 : decide ((ji15) < (l0.length : Int)) = true := decide_eq_true c17
     clear c17
     by_cases c18 : ((rd_T51 l0 x32_2).f0) ≤ ((rd_T51 l0 (ji15)).f0)
     ·rw [if_pos c18] at H
      have c18b0 : decide (((rd_T51 l0 x32_2).f0) ≤ ((rd_T51 l0 (ji15)).f0)) = true := decide_eq_true c18
      clear c18
      obtain rfl := Option.some.inj H
      have p110 : 0 ≤ (x32_2 : Int) := od_
      have q110 : x32_2 < (l0.length : Int) := od_
      obtain ⟨ad110, e110, hx110_0, hx110_1, hx110_2, hx110_3, hx110_4⟩ := at_T51 HR0.out x32_2 p110 q110
      cases e110
      replace hx110_0 := cb_ HB hx110_0
      replace hx110_1 := cb_ HB hx110_1
      replace hx110_2 := cb_ HB hx110_2
      replace hx110_3 := cb_ HB hx110_3
      replace hx110_4 := cb_ HB hx110_4
      replace p110 := eq_true p110
      replace q110 := eq_true q110
      try go_wp2_with (first | ((with_reducible refine gate_dst (N := 4) rfl ?_); (try (refine gate_guard (by rfl) ?_; dsimp only)); refine box_event ?hg (N := 4) ?hd (cs := #[.int .i64 0, .int .i64 0, .int .i64 0, .int .i64 0, .int .i64 0]) (t := 51) ?hr ?_; (case hd => rfl); (case hg => rfl); (case hr => first | (go_simp; done) | (go_simp; rfl)); intro gb111 hg w19 hbox hb; have BK111 := mk_ (hbox); have GW111 := mk_ (bz_ hg (bb_ HB)); have GE111 := mk_ (bz_ hg (bb_ HB)); replace HB := mk_ (below_step (bb_ HB) hb); clear hb hbox hg; have hcz20_0 := bc0_ BK111.out; have hcz20_1 := bc1_ BK111.out; have hcz20_2 := bc2_ BK111.out; have hcz20_3 : w19.cell? ⟨gb111, 3, none⟩ = some (.int .i64 0) := (blk_cell BK111.out 3).trans rfl; have hcz20_4 : w19.cell? ⟨gb111, 4, none⟩ = some (.int .i64 0) := (blk_cell BK111.out 4).trans rfl; have hfz20_0 := blk_frozen BK111.out 0; have hfz20_1 := blk_frozen BK111.out 1; have hfz20_2 := blk_frozen BK111.out 2; have hfz20_3 := blk_frozen BK111.out 3; have hfz20_4 := blk_frozen BK111.out 4))
      have n0_ : Aside0 ((((((w19.setCell ⟨gb111, 0, none⟩ (.int .i64 ((rd_T51 l0 x32_2).f0))).setCell ⟨gb111, 1, none⟩ (.int .i64 ((rd_T51 l0 x32_2).f1.f0))).setCell ⟨gb111, 2, none⟩ (.int .i64 ((rd_T51 l0 x32_2).f1.f1))).setCell ⟨gb111, 3, none⟩ (.int .i64 ((rd_T51 l0 x32_2).f2.f0))).setCell ⟨gb111, 4, none⟩ (.int .i64 ((rd_T51 l0 x32_2).f2.f1))).heap[gb111]? = some (.cells #[.int .i64 ((rd_T51 l0 x32_2).f0), .int .i64 ((rd_T51 l0 x32_2).f1.f0), .int .i64 ((rd_T51 l0 x32_2).f1.f1), .int .i64 ((rd_T51 l0 x32_2).f2.f0), .int .i64 ((rd_T51 l0 x32_2).f2.f1)] 51 (0, 0))) := ⟨by (with_reducible repeat (first | refine blk_drewN ?_ _ | refine blk_drew ?_ | refine blk_alloc ?_ _)); refine blk_put (cs := #[.int .i64 ((rd_T51 l0 x32_2).f0), .int .i64 ((rd_T51 l0 x32_2).f1.f0), .int .i64 ((rd_T51 l0 x32_2).f1.f1), .int .i64 ((rd_T51 l0 x32_2).f2.f0), .int .i64 0]) ?_ 4 _ rfl; (with_reducible repeat (first | refine blk_drewN ?_ _ | refine blk_drew ?_ | refine blk_alloc ?_ _)); refine blk_put (cs := #[.int .i64 ((rd_T51 l0 x32_2).f0), .int .i64 ((rd_T51 l0 x32_2).f1.f0), .int .i64 ((rd_T51 l0 x32_2).f1.f1), .int .i64 0, .int .i64 0]) ?_ 3 _ rfl; (with_reducible repeat (first | refine blk_drewN ?_ _ | refine blk_drew ?_ | refine blk_alloc ?_ _)); refine blk_put (cs := #[.int .i64 ((rd_T51 l0 x32_2).f0), .int .i64 ((rd_T51 l0 x32_2).f1.f0), .int .i64 0, .int .i64 0, .int .i64 0]) ?_ 2 _ rfl; (with_reducible repeat (first | refine blk_drewN ?_ _ | refine blk_drew ?_ | refine blk_alloc ?_ _)); refine blk_put (cs := #[.int .i64 ((rd_T51 l0 x32_2).f0), .int .i64 0, .int .i64 0, .int .i64 0, .int .i64 0]) ?_ 1 _ rfl; (with_reducible repeat (first | refine blk_drewN ?_ _ | refine blk_drew ?_ | refine blk_alloc ?_ _)); refine blk_put (cs := #[.int .i64 0, .int .i64 0, .int .i64 0, .int .i64 0, .int .i64 0]) ?_ 0 _ rfl; (with_reducible repeat (first | refine blk_drewN ?_ _ | refine blk_drew ?_ | refine blk_alloc ?_ _)); exact BK111.out⟩
      have n1_ : Aside0 (Below w.heap.size w (((((w19.setCell ⟨gb111, 0, none⟩ (.int .i64 ((rd_T51 l0 x32_2).f0))).setCell ⟨gb111, 1, none⟩ (.int .i64 ((rd_T51 l0 x32_2).f1.f0))).setCell ⟨gb111, 2, none⟩ (.int .i64 ((rd_T51 l0 x32_2).f1.f1))).setCell ⟨gb111, 3, none⟩ (.int .i64 ((rd_T51 l0 x32_2).f2.f0))).setCell ⟨gb111, 4, none⟩ (.int .i64 ((rd_T51 l0 x32_2).f2.f1)))) := ⟨bs1_ HB GE111⟩
      (try clear BK111)
      (try clear HB)
      generalize (((((w19.setCell ⟨gb111, 0, none⟩ (.int .i64 ((rd_T51 l0 x32_2).f0))).setCell ⟨gb111, 1, none⟩ (.int .i64 ((rd_T51 l0 x32_2).f1.f0))).setCell ⟨gb111, 2, none⟩ (.int .i64 ((rd_T51 l0 x32_2).f1.f1))).setCell ⟨gb111, 3, none⟩ (.int .i64 ((rd_T51 l0 x32_2).f2.f0))).setCell ⟨gb111, 4, none⟩ (.int .i64 ((rd_T51 l0 x32_2).f2.f1))) = w21 at n0_ n1_ ⊢
      have BK111 := n0_
      have HB := n1_
      clear n0_ n1_
      replace BK111 := mk_ (blk_drew BK111.out)
      replace HB := mk_ (below_drew1 HB.out)
      have p112 : 0 ≤ ((ji15) : Int) := od_
      have q112 : (ji15) < (l0.length : Int) := od_
      obtain ⟨ad112, e112, hx112_0, hx112_1, hx112_2, hx112_3, hx112_4⟩ := at_T51 HR0.out (ji15) p112 q112
      have hw112_4 := hx112_4
      have hw112_3 := hx112_3
      have hw112_2 := hx112_2
      have hw112_1 := hx112_1
      have hw112_0 := hx112_0
      obtain rfl : ad110 = ad112 := (by injection e112)
      replace hx112_0 := cb_ HB hx112_0
      replace hx112_1 := cb_ HB hx112_1
      replace hx112_2 := cb_ HB hx112_2
      replace hx112_3 := cb_ HB hx112_3
      replace hx112_4 := cb_ HB hx112_4
      replace p112 := eq_true p112
      replace q112 := eq_true q112
      refine start_ (n := 18) (S := fun w' => w'.cell? ⟨gb111, 0, none⟩ = some (.int .i64 ((rd_T51 l0 x32_2).f0)) ∧ w'.cell? ⟨gb111, 1, none⟩ = some (.int .i64 ((rd_T51 l0 x32_2).f1.f0)) ∧ w'.cell? ⟨gb111, 2, none⟩ = some (.int .i64 ((rd_T51 l0 x32_2).f1.f1)) ∧ w'.cell? ⟨gb111, 3, none⟩ = some (.int .i64 ((rd_T51 l0 x32_2).f2.f0)) ∧ w'.cell? ⟨gb111, 4, none⟩ = some (.int .i64 ((rd_T51 l0 x32_2).f2.f1)) ∧ w'.cell? (ad110.add (((ji15)).toNat * 5)) = some (.int .i64 ((rd_T51 l0 (ji15)).f0)) ∧ w'.cell? ⟨(ad110.add (((ji15)).toNat * 5)).block, (ad110.add (((ji15)).toNat * 5)).off + 1, none⟩ = some (.int .i64 ((rd_T51 l0 (ji15)).f1.f0)) ∧ w'.cell? ⟨(ad110.add (((ji15)).toNat * 5)).block, (ad110.add (((ji15)).toNat * 5)).off + 2, none⟩ = some (.int .i64 ((rd_T51 l0 (ji15)).f1.f1)) ∧ w'.cell? ⟨(ad110.add (((ji15)).toNat * 5)).block, (ad110.add (((ji15)).toNat * 5)).off + 3, none⟩ = some (.int .i64 ((rd_T51 l0 (ji15)).f2.f0)) ∧ w'.cell? ⟨(ad110.add (((ji15)).toNat * 5)).block, (ad110.add (((ji15)).toNat * 5)).off + 4, none⟩ = some (.int .i64 ((rd_T51 l0 (ji15)).f2.f1))) (ds := []) #[n_, n_, n_, n_, n_, n_, n_, n_, n_, n_, n_, n_, n_, n_, n_, n_, n_, n_] (by kernel_rfl) rfl rfl ⟨(blk_cell BK111.out 0).trans rfl, (blk_cell BK111.out 1).trans rfl, (blk_cell BK111.out 2).trans rfl, (blk_cell BK111.out 3).trans rfl, (blk_cell BK111.out 4).trans rfl, (cb_ HB hw112_0), (cb_ HB hw112_1), (cb_ HB hw112_2), (cb_ HB hw112_3), (cb_ HB hw112_4)⟩ (fun hHeld => ?_); refine with_tabW piecewise_Valid.tab6 piecewise_Valid.bits6 (fun HT_ HW_ => ?_)
      generalize w21.drew = w22 at BK111 HB hx112_0 hx112_1 hx112_2 hx112_3 hx112_4 hHeld ⊢
      refine pu_ 0 37 (w_ 18 1) rfl HT_ ?_
      refine pu_ 1 38 (w_ 18 3) rfl HT_ ?_
      refine pu_ 2 39 (w_ 18 7) rfl HT_ ?_
      refine pu_ 3 40 (w_ 18 15) rfl HT_ ?_
      refine pu_ 5 42 (w_ 18 47) rfl HT_ ?_
      refine pu_ 6 43 (w_ 18 111) rfl HT_ ?_
      refine pu_ 7 44 (w_ 18 239) rfl HT_ ?_
      refine pu_ 8 45 (w_ 18 495) rfl HT_ ?_
      refine pu_ 9 46 (w_ 18 1007) rfl HT_ ?_
      refine ta_ 4 41 (w_ 18 1023) rfl HT_ HW_ hHeld (by rintro w' ⟨s0, s1, s2, s3, s4, s5, s6, s7, s8, s9⟩; go_simp; with_reducible rfl) ?_
      refine ta_ 10 47 (w_ 18 2047) rfl HT_ HW_ hHeld (by rintro w' ⟨s0, s1, s2, s3, s4, s5, s6, s7, s8, s9⟩; go_simp; with_reducible rfl) ?_
      refine pu_ 11 48 (w_ 18 4095) rfl HT_ ?_
      refine pu_ 12 49 (w_ 18 8191) rfl HT_ ?_
      refine pu_ 13 50 (w_ 18 16383) rfl HT_ ?_
      refine pn_ 14 51 (w_ 18 32767) rfl HT_ ?_
      refine pn_ 15 52 (w_ 18 65535) rfl HT_ ?_
      refine pn_ 16 53 (w_ 18 131071) rfl HT_ ?_
      refine pu_ 17 54 (w_ 18 262143) rfl HT_ ?_
      refine done_ (done_of HT_.out (by kernel_rfl)) ?_
      try go_wp2
      go_ret
      exact ⟨by first | rfl | (simp [errW_none, errW_some] <;> rfl) | (simp only [← hji15]; first | rfl | (simp [errW_none, errW_some] <;> rfl)) | (simp [*, errW_none, errW_some] <;> rfl), bs1_ HB GE111⟩
     rw [if_neg c18] at H
     have c18b0 : decide (((rd_T51 l0 x32_2).f0) ≤ ((rd_T51 l0 (ji15)).f0)) = false := decide_eq_false c18
     clear c18
     replace H := Option.bind_eq_some_iff.mp H
     obtain ⟨t113, A230, H⟩ := H
     replace H : (if t113 = true then (piecewise_Valid.l0 k2 l0 l0 (l0.length : Int) (wrap64 (x32_2 + 1))) else (some false)) = some r := H
     have A23 := mk_ A230
     clear A230
     by_cases c24 : t113 = true
     case' _ =>
      subst c24
      have H1 : (piecewise_Valid.l0 k2 l0 l0 (l0.length : Int) (wrap64 (x32_2 + 1))) = some r := by rw [if_pos rfl] at H; exact H
      clear H
      have H := H1
      clear H1
      have H' := mk_ H
      clear H
      have p110 : 0 ≤ (x32_2 : Int) := od_
      have q110 : x32_2 < (l0.length : Int) := od_
      obtain ⟨ad110, e110, hx110_0, hx110_1, hx110_2, hx110_3, hx110_4⟩ := at_T51 HR0.out x32_2 p110 q110
      cases e110
      replace hx110_0 := cb_ HB hx110_0
      replace hx110_1 := cb_ HB hx110_1
      replace hx110_2 := cb_ HB hx110_2
      replace hx110_3 := cb_ HB hx110_3
      replace hx110_4 := cb_ HB hx110_4
      replace p110 := eq_true p110
      replace q110 := eq_true q110
     rotate_left
     case' _ =>
      replace c24 := Bool.eq_false_iff.mpr c24
      subst c24
      have H1 : (some false) = some r := by rw [if_neg (show ¬ (false = true) by decide)] at H; exact H
      clear H
      have H := H1
      clear H1
      obtain rfl := Option.some.inj H
      have p110 : 0 ≤ (x32_2 : Int) := od_
      have q110 : x32_2 < (l0.length : Int) := od_
      obtain ⟨ad110, e110, hx110_0, hx110_1, hx110_2, hx110_3, hx110_4⟩ := at_T51 HR0.out x32_2 p110 q110
      cases e110
      replace hx110_0 := cb_ HB hx110_0
      replace hx110_1 := cb_ HB hx110_1
      replace hx110_2 := cb_ HB hx110_2
      replace hx110_3 := cb_ HB hx110_3
      replace hx110_4 := cb_ HB hx110_4
      replace p110 := eq_true p110
      replace q110 := eq_true q110
     rotate_left
     all_goals try go_wp2_with (first | ((with_reducible refine gate_dst (N := 4) rfl ?_); (try (refine gate_guard (by rfl) ?_; dsimp only)); refine box_event ?hg (N := 4) ?hd (cs := #[.int .i64 0, .int .i64 0, .int .i64 0, .int .i64 0, .int .i64 0]) (t := 51) ?hr ?_; (case hd => rfl); (case hg => rfl); (case hr => first | (go_simp; done) | (go_simp; rfl)); intro gb111 hg w25 hbox hb; have BK111 := mk_ (hbox); have GW111 := mk_ (bz_ hg (bb_ HB)); have GE111 := mk_ (bz_ hg (bb_ HB)); replace HB := mk_ (below_step (bb_ HB) hb); clear hb hbox hg; have hcz26_0 := bc0_ BK111.out; have hcz26_1 := bc1_ BK111.out; have hcz26_2 := bc2_ BK111.out; have hcz26_3 : w25.cell? ⟨gb111, 3, none⟩ = some (.int .i64 0) := (blk_cell BK111.out 3).trans rfl; have hcz26_4 : w25.cell? ⟨gb111, 4, none⟩ = some (.int .i64 0) := (blk_cell BK111.out 4).trans rfl; have hfz26_0 := blk_frozen BK111.out 0; have hfz26_1 := blk_frozen BK111.out 1; have hfz26_2 := blk_frozen BK111.out 2; have hfz26_3 := blk_frozen BK111.out 3; have hfz26_4 := blk_frozen BK111.out 4))
     ·have n0_ : Aside0 ((((((w25.setCell ⟨gb111, 0, none⟩ (.int .i64 ((rd_T51 l0 x32_2).f0))).setCell ⟨gb111, 1, none⟩ (.int .i64 ((rd_T51 l0 x32_2).f1.f0))).setCell ⟨gb111, 2, none⟩ (.int .i64 ((rd_T51 l0 x32_2).f1.f1))).setCell ⟨gb111, 3, none⟩ (.int .i64 ((rd_T51 l0 x32_2).f2.f0))).setCell ⟨gb111, 4, none⟩ (.int .i64 ((rd_T51 l0 x32_2).f2.f1))).heap[gb111]? = some (.cells #[.int .i64 ((rd_T51 l0 x32_2).f0), .int .i64 ((rd_T51 l0 x32_2).f1.f0), .int .i64 ((rd_T51 l0 x32_2).f1.f1), .int .i64 ((rd_T51 l0 x32_2).f2.f0), .int .i64 ((rd_T51 l0 x32_2).f2.f1)] 51 (0, 0))) := ⟨by (with_reducible repeat (first | refine blk_drewN ?_ _ | refine blk_drew ?_ | refine blk_alloc ?_ _)); refine blk_put (cs := #[.int .i64 ((rd_T51 l0 x32_2).f0), .int .i64 ((rd_T51 l0 x32_2).f1.f0), .int .i64 ((rd_T51 l0 x32_2).f1.f1), .int .i64 ((rd_T51 l0 x32_2).f2.f0), .int .i64 0]) ?_ 4 _ rfl; (with_reducible repeat (first | refine blk_drewN ?_ _ | refine blk_drew ?_ | refine blk_alloc ?_ _)); refine blk_put (cs := #[.int .i64 ((rd_T51 l0 x32_2).f0), .int .i64 ((rd_T51 l0 x32_2).f1.f0), .int .i64 ((rd_T51 l0 x32_2).f1.f1), .int .i64 0, .int .i64 0]) ?_ 3 _ rfl; (with_reducible repeat (first | refine blk_drewN ?_ _ | refine blk_drew ?_ | refine blk_alloc ?_ _)); refine blk_put (cs := #[.int .i64 ((rd_T51 l0 x32_2).f0), .int .i64 ((rd_T51 l0 x32_2).f1.f0), .int .i64 0, .int .i64 0, .int .i64 0]) ?_ 2 _ rfl; (with_reducible repeat (first | refine blk_drewN ?_ _ | refine blk_drew ?_ | refine blk_alloc ?_ _)); refine blk_put (cs := #[.int .i64 ((rd_T51 l0 x32_2).f0), .int .i64 0, .int .i64 0, .int .i64 0, .int .i64 0]) ?_ 1 _ rfl; (with_reducible repeat (first | refine blk_drewN ?_ _ | refine blk_drew ?_ | refine blk_alloc ?_ _)); refine blk_put (cs := #[.int .i64 0, .int .i64 0, .int .i64 0, .int .i64 0, .int .i64 0]) ?_ 0 _ rfl; (with_reducible repeat (first | refine blk_drewN ?_ _ | refine blk_drew ?_ | refine blk_alloc ?_ _)); exact BK111.out⟩
      have n1_ : Aside0 (Below w.heap.size w (((((w25.setCell ⟨gb111, 0, none⟩ (.int .i64 ((rd_T51 l0 x32_2).f0))).setCell ⟨gb111, 1, none⟩ (.int .i64 ((rd_T51 l0 x32_2).f1.f0))).setCell ⟨gb111, 2, none⟩ (.int .i64 ((rd_T51 l0 x32_2).f1.f1))).setCell ⟨gb111, 3, none⟩ (.int .i64 ((rd_T51 l0 x32_2).f2.f0))).setCell ⟨gb111, 4, none⟩ (.int .i64 ((rd_T51 l0 x32_2).f2.f1)))) := ⟨bs1_ HB GE111⟩
      (try clear BK111)
      (try clear HB)
      generalize (((((w25.setCell ⟨gb111, 0, none⟩ (.int .i64 ((rd_T51 l0 x32_2).f0))).setCell ⟨gb111, 1, none⟩ (.int .i64 ((rd_T51 l0 x32_2).f1.f0))).setCell ⟨gb111, 2, none⟩ (.int .i64 ((rd_T51 l0 x32_2).f1.f1))).setCell ⟨gb111, 3, none⟩ (.int .i64 ((rd_T51 l0 x32_2).f2.f0))).setCell ⟨gb111, 4, none⟩ (.int .i64 ((rd_T51 l0 x32_2).f2.f1))) = w27 at n0_ n1_ ⊢
      have BK111 := n0_
      have HB := n1_
      clear n0_ n1_
      replace BK111 := mk_ (blk_drew BK111.out)
      replace HB := mk_ (below_drew1 HB.out)
      have p112 : 0 ≤ ((ji15) : Int) := od_
      have q112 : (ji15) < (l0.length : Int) := od_
      obtain ⟨ad112, e112, hx112_0, hx112_1, hx112_2, hx112_3, hx112_4⟩ := at_T51 HR0.out (ji15) p112 q112
      have hw112_4 := hx112_4
      have hw112_3 := hx112_3
      have hw112_2 := hx112_2
      have hw112_1 := hx112_1
      have hw112_0 := hx112_0
      obtain rfl : ad110 = ad112 := (by injection e112)
      replace hx112_0 := cb_ HB hx112_0
      replace hx112_1 := cb_ HB hx112_1
      replace hx112_2 := cb_ HB hx112_2
      replace hx112_3 := cb_ HB hx112_3
      replace hx112_4 := cb_ HB hx112_4
      replace p112 := eq_true p112
      replace q112 := eq_true q112
      refine start_ (n := 18) (S := fun w' => w'.cell? ⟨gb111, 0, none⟩ = some (.int .i64 ((rd_T51 l0 x32_2).f0)) ∧ w'.cell? ⟨gb111, 1, none⟩ = some (.int .i64 ((rd_T51 l0 x32_2).f1.f0)) ∧ w'.cell? ⟨gb111, 2, none⟩ = some (.int .i64 ((rd_T51 l0 x32_2).f1.f1)) ∧ w'.cell? ⟨gb111, 3, none⟩ = some (.int .i64 ((rd_T51 l0 x32_2).f2.f0)) ∧ w'.cell? ⟨gb111, 4, none⟩ = some (.int .i64 ((rd_T51 l0 x32_2).f2.f1)) ∧ w'.cell? (ad110.add (((ji15)).toNat * 5)) = some (.int .i64 ((rd_T51 l0 (ji15)).f0)) ∧ w'.cell? ⟨(ad110.add (((ji15)).toNat * 5)).block, (ad110.add (((ji15)).toNat * 5)).off + 1, none⟩ = some (.int .i64 ((rd_T51 l0 (ji15)).f1.f0)) ∧ w'.cell? ⟨(ad110.add (((ji15)).toNat * 5)).block, (ad110.add (((ji15)).toNat * 5)).off + 2, none⟩ = some (.int .i64 ((rd_T51 l0 (ji15)).f1.f1)) ∧ w'.cell? ⟨(ad110.add (((ji15)).toNat * 5)).block, (ad110.add (((ji15)).toNat * 5)).off + 3, none⟩ = some (.int .i64 ((rd_T51 l0 (ji15)).f2.f0)) ∧ w'.cell? ⟨(ad110.add (((ji15)).toNat * 5)).block, (ad110.add (((ji15)).toNat * 5)).off + 4, none⟩ = some (.int .i64 ((rd_T51 l0 (ji15)).f2.f1))) (ds := []) #[n_, n_, n_, n_, n_, n_, n_, n_, n_, n_, n_, n_, n_, n_, n_, n_, n_, n_] (by kernel_rfl) rfl rfl ⟨(blk_cell BK111.out 0).trans rfl, (blk_cell BK111.out 1).trans rfl, (blk_cell BK111.out 2).trans rfl, (blk_cell BK111.out 3).trans rfl, (blk_cell BK111.out 4).trans rfl, (cb_ HB hw112_0), (cb_ HB hw112_1), (cb_ HB hw112_2), (cb_ HB hw112_3), (cb_ HB hw112_4)⟩ (fun hHeld => ?_); refine with_tabW piecewise_Valid.tab6 piecewise_Valid.bits6 (fun HT_ HW_ => ?_)
      generalize w27.drew = w28 at BK111 HB hx112_0 hx112_1 hx112_2 hx112_3 hx112_4 hHeld ⊢
      refine pu_ 0 37 (w_ 18 1) rfl HT_ ?_
      refine pu_ 1 38 (w_ 18 3) rfl HT_ ?_
      refine pu_ 2 39 (w_ 18 7) rfl HT_ ?_
      refine pu_ 3 40 (w_ 18 15) rfl HT_ ?_
      refine pu_ 5 42 (w_ 18 47) rfl HT_ ?_
      refine pu_ 6 43 (w_ 18 111) rfl HT_ ?_
      refine pu_ 7 44 (w_ 18 239) rfl HT_ ?_
      refine pu_ 8 45 (w_ 18 495) rfl HT_ ?_
      refine pu_ 9 46 (w_ 18 1007) rfl HT_ ?_
      refine ta_ 4 41 (w_ 18 1023) rfl HT_ HW_ hHeld (by rintro w' ⟨s0, s1, s2, s3, s4, s5, s6, s7, s8, s9⟩; go_simp; with_reducible rfl) ?_
      refine ta_ 10 47 (w_ 18 2047) rfl HT_ HW_ hHeld (by rintro w' ⟨s0, s1, s2, s3, s4, s5, s6, s7, s8, s9⟩; go_simp; with_reducible rfl) ?_
      refine pu_ 11 48 (w_ 18 4095) rfl HT_ ?_
      refine pu_ 12 49 (w_ 18 8191) rfl HT_ ?_
      refine pu_ 13 50 (w_ 18 16383) rfl HT_ ?_
      refine ta_ 14 51 (w_ 18 32767) rfl HT_ HW_ hHeld (by rintro w' ⟨s0, s1, s2, s3, s4, s5, s6, s7, s8, s9⟩; go_simp; with_reducible rfl) ?_
      refine one_ (i := 15) (N := some 52) (w_ 18 65535) rfl rfl (one_of HT_.out (by kernel_rfl)) (by decide) (fun K hK => ?_)
      refine goes_ Try.func38 (by kernel_rfl) rfl #[.agg #[.int .i64 ((rd_T51 l0 x32_2).f0), .int .i64 ((rd_T51 l0 x32_2).f1.f0), .int .i64 ((rd_T51 l0 x32_2).f1.f1), .int .i64 ((rd_T51 l0 x32_2).f2.f0), .int .i64 ((rd_T51 l0 x32_2).f2.f1)]] (by rfl) rfl rfl (by (try simp only [List.map_toArray, List.map_cons, List.map_nil]); first | done | rfl | (simp only [List.length_drop, List.length_take]; rfl)) ?_
      with_reducible refine (piecewise_numbers.calls ((rd_T51 l0 x32_2).f0) ((rd_T51 l0 x32_2).f1.f0) ((rd_T51 l0 x32_2).f1.f1) ((rd_T51 l0 x32_2).f2.f0) ((rd_T51 l0 x32_2).f2.f1) true _ A23.out).mono ?_
      rintro e w29 ⟨rfl, hb⟩
      refine ⟨_, rfl, ?_⟩
      replace BK111 := mk_ (blk_below (kk_ BK111) hb)
      replace HB := mk_ (below_step (bs_ HB GE111.out) hb)
      (try clear hb)
      refine hK.out _ _ ⟨(blk_cell BK111.out 0).trans rfl, (blk_cell BK111.out 1).trans rfl, (blk_cell BK111.out 2).trans rfl, (blk_cell BK111.out 3).trans rfl, (blk_cell BK111.out 4).trans rfl, (cb_ HB hw112_0), (cb_ HB hw112_1), (cb_ HB hw112_2), (cb_ HB hw112_3), (cb_ HB hw112_4)⟩ (fun hHeld => ?_)
      clear hK K
      refine norm_ (a' := ?_) ?_ ?_
      rotate_left
      ·show Act.put _ (some 52) _ = _
       simp only [Act.put, sI_, s0_, sS_, i64_w, i32_w]
       rfl
      refine pu_ 16 53 (w_ 18 131071) rfl HT_ ?_
      refine pu_ 17 54 (w_ 18 262143) rfl HT_ ?_
      refine done_ (done_of HT_.out (by kernel_rfl)) ?_
      try go_wp2
      go_roundg k2
      case measure => have := HJ1.out; have := HK2.out; omega
      case rel => exact ⟨(wrap64 (x32_2 + 1)), sd_, H', ⟨by have := HJ1.out; have := HK2.out; omega⟩, ⟨bs1_ HB GE111⟩⟩
     ·have n0_ : Aside0 ((((((w25.setCell ⟨gb111, 0, none⟩ (.int .i64 ((rd_T51 l0 x32_2).f0))).setCell ⟨gb111, 1, none⟩ (.int .i64 ((rd_T51 l0 x32_2).f1.f0))).setCell ⟨gb111, 2, none⟩ (.int .i64 ((rd_T51 l0 x32_2).f1.f1))).setCell ⟨gb111, 3, none⟩ (.int .i64 ((rd_T51 l0 x32_2).f2.f0))).setCell ⟨gb111, 4, none⟩ (.int .i64 ((rd_T51 l0 x32_2).f2.f1))).heap[gb111]? = some (.cells #[.int .i64 ((rd_T51 l0 x32_2).f0), .int .i64 ((rd_T51 l0 x32_2).f1.f0), .int .i64 ((rd_T51 l0 x32_2).f1.f1), .int .i64 ((rd_T51 l0 x32_2).f2.f0), .int .i64 ((rd_T51 l0 x32_2).f2.f1)] 51 (0, 0))) := ⟨by (with_reducible repeat (first | refine blk_drewN ?_ _ | refine blk_drew ?_ | refine blk_alloc ?_ _)); refine blk_put (cs := #[.int .i64 ((rd_T51 l0 x32_2).f0), .int .i64 ((rd_T51 l0 x32_2).f1.f0), .int .i64 ((rd_T51 l0 x32_2).f1.f1), .int .i64 ((rd_T51 l0 x32_2).f2.f0), .int .i64 0]) ?_ 4 _ rfl; (with_reducible repeat (first | refine blk_drewN ?_ _ | refine blk_drew ?_ | refine blk_alloc ?_ _)); refine blk_put (cs := #[.int .i64 ((rd_T51 l0 x32_2).f0), .int .i64 ((rd_T51 l0 x32_2).f1.f0), .int .i64 ((rd_T51 l0 x32_2).f1.f1), .int .i64 0, .int .i64 0]) ?_ 3 _ rfl; (with_reducible repeat (first | refine blk_drewN ?_ _ | refine blk_drew ?_ | refine blk_alloc ?_ _)); refine blk_put (cs := #[.int .i64 ((rd_T51 l0 x32_2).f0), .int .i64 ((rd_T51 l0 x32_2).f1.f0), .int .i64 0, .int .i64 0, .int .i64 0]) ?_ 2 _ rfl; (with_reducible repeat (first | refine blk_drewN ?_ _ | refine blk_drew ?_ | refine blk_alloc ?_ _)); refine blk_put (cs := #[.int .i64 ((rd_T51 l0 x32_2).f0), .int .i64 0, .int .i64 0, .int .i64 0, .int .i64 0]) ?_ 1 _ rfl; (with_reducible repeat (first | refine blk_drewN ?_ _ | refine blk_drew ?_ | refine blk_alloc ?_ _)); refine blk_put (cs := #[.int .i64 0, .int .i64 0, .int .i64 0, .int .i64 0, .int .i64 0]) ?_ 0 _ rfl; (with_reducible repeat (first | refine blk_drewN ?_ _ | refine blk_drew ?_ | refine blk_alloc ?_ _)); exact BK111.out⟩
      have n1_ : Aside0 (Below w.heap.size w (((((w25.setCell ⟨gb111, 0, none⟩ (.int .i64 ((rd_T51 l0 x32_2).f0))).setCell ⟨gb111, 1, none⟩ (.int .i64 ((rd_T51 l0 x32_2).f1.f0))).setCell ⟨gb111, 2, none⟩ (.int .i64 ((rd_T51 l0 x32_2).f1.f1))).setCell ⟨gb111, 3, none⟩ (.int .i64 ((rd_T51 l0 x32_2).f2.f0))).setCell ⟨gb111, 4, none⟩ (.int .i64 ((rd_T51 l0 x32_2).f2.f1)))) := ⟨bs1_ HB GE111⟩
      (try clear BK111)
      (try clear HB)
      generalize (((((w25.setCell ⟨gb111, 0, none⟩ (.int .i64 ((rd_T51 l0 x32_2).f0))).setCell ⟨gb111, 1, none⟩ (.int .i64 ((rd_T51 l0 x32_2).f1.f0))).setCell ⟨gb111, 2, none⟩ (.int .i64 ((rd_T51 l0 x32_2).f1.f1))).setCell ⟨gb111, 3, none⟩ (.int .i64 ((rd_T51 l0 x32_2).f2.f0))).setCell ⟨gb111, 4, none⟩ (.int .i64 ((rd_T51 l0 x32_2).f2.f1))) = w32 at n0_ n1_ ⊢
      have BK111 := n0_
      have HB := n1_
      clear n0_ n1_
      replace BK111 := mk_ (blk_drew BK111.out)
      replace HB := mk_ (below_drew1 HB.out)
      have p112 : 0 ≤ ((ji15) : Int) := od_
      have q112 : (ji15) < (l0.length : Int) := od_
      obtain ⟨ad112, e112, hx112_0, hx112_1, hx112_2, hx112_3, hx112_4⟩ := at_T51 HR0.out (ji15) p112 q112
      have hw112_4 := hx112_4
      have hw112_3 := hx112_3
      have hw112_2 := hx112_2
      have hw112_1 := hx112_1
      have hw112_0 := hx112_0
      obtain rfl : ad110 = ad112 := (by injection e112)
      replace hx112_0 := cb_ HB hx112_0
      replace hx112_1 := cb_ HB hx112_1
      replace hx112_2 := cb_ HB hx112_2
      replace hx112_3 := cb_ HB hx112_3
      replace hx112_4 := cb_ HB hx112_4
      replace p112 := eq_true p112
      replace q112 := eq_true q112
      refine start_ (n := 18) (S := fun w' => w'.cell? ⟨gb111, 0, none⟩ = some (.int .i64 ((rd_T51 l0 x32_2).f0)) ∧ w'.cell? ⟨gb111, 1, none⟩ = some (.int .i64 ((rd_T51 l0 x32_2).f1.f0)) ∧ w'.cell? ⟨gb111, 2, none⟩ = some (.int .i64 ((rd_T51 l0 x32_2).f1.f1)) ∧ w'.cell? ⟨gb111, 3, none⟩ = some (.int .i64 ((rd_T51 l0 x32_2).f2.f0)) ∧ w'.cell? ⟨gb111, 4, none⟩ = some (.int .i64 ((rd_T51 l0 x32_2).f2.f1)) ∧ w'.cell? (ad110.add (((ji15)).toNat * 5)) = some (.int .i64 ((rd_T51 l0 (ji15)).f0)) ∧ w'.cell? ⟨(ad110.add (((ji15)).toNat * 5)).block, (ad110.add (((ji15)).toNat * 5)).off + 1, none⟩ = some (.int .i64 ((rd_T51 l0 (ji15)).f1.f0)) ∧ w'.cell? ⟨(ad110.add (((ji15)).toNat * 5)).block, (ad110.add (((ji15)).toNat * 5)).off + 2, none⟩ = some (.int .i64 ((rd_T51 l0 (ji15)).f1.f1)) ∧ w'.cell? ⟨(ad110.add (((ji15)).toNat * 5)).block, (ad110.add (((ji15)).toNat * 5)).off + 3, none⟩ = some (.int .i64 ((rd_T51 l0 (ji15)).f2.f0)) ∧ w'.cell? ⟨(ad110.add (((ji15)).toNat * 5)).block, (ad110.add (((ji15)).toNat * 5)).off + 4, none⟩ = some (.int .i64 ((rd_T51 l0 (ji15)).f2.f1))) (ds := []) #[n_, n_, n_, n_, n_, n_, n_, n_, n_, n_, n_, n_, n_, n_, n_, n_, n_, n_] (by kernel_rfl) rfl rfl ⟨(blk_cell BK111.out 0).trans rfl, (blk_cell BK111.out 1).trans rfl, (blk_cell BK111.out 2).trans rfl, (blk_cell BK111.out 3).trans rfl, (blk_cell BK111.out 4).trans rfl, (cb_ HB hw112_0), (cb_ HB hw112_1), (cb_ HB hw112_2), (cb_ HB hw112_3), (cb_ HB hw112_4)⟩ (fun hHeld => ?_); refine with_tabW piecewise_Valid.tab6 piecewise_Valid.bits6 (fun HT_ HW_ => ?_)
      generalize w32.drew = w33 at BK111 HB hx112_0 hx112_1 hx112_2 hx112_3 hx112_4 hHeld ⊢
      refine pu_ 0 37 (w_ 18 1) rfl HT_ ?_
      refine pu_ 1 38 (w_ 18 3) rfl HT_ ?_
      refine pu_ 2 39 (w_ 18 7) rfl HT_ ?_
      refine pu_ 3 40 (w_ 18 15) rfl HT_ ?_
      refine pu_ 5 42 (w_ 18 47) rfl HT_ ?_
      refine pu_ 6 43 (w_ 18 111) rfl HT_ ?_
      refine pu_ 7 44 (w_ 18 239) rfl HT_ ?_
      refine pu_ 8 45 (w_ 18 495) rfl HT_ ?_
      refine pu_ 9 46 (w_ 18 1007) rfl HT_ ?_
      refine ta_ 4 41 (w_ 18 1023) rfl HT_ HW_ hHeld (by rintro w' ⟨s0, s1, s2, s3, s4, s5, s6, s7, s8, s9⟩; go_simp; with_reducible rfl) ?_
      refine ta_ 10 47 (w_ 18 2047) rfl HT_ HW_ hHeld (by rintro w' ⟨s0, s1, s2, s3, s4, s5, s6, s7, s8, s9⟩; go_simp; with_reducible rfl) ?_
      refine pu_ 11 48 (w_ 18 4095) rfl HT_ ?_
      refine pu_ 12 49 (w_ 18 8191) rfl HT_ ?_
      refine pu_ 13 50 (w_ 18 16383) rfl HT_ ?_
      refine ta_ 14 51 (w_ 18 32767) rfl HT_ HW_ hHeld (by rintro w' ⟨s0, s1, s2, s3, s4, s5, s6, s7, s8, s9⟩; go_simp; with_reducible rfl) ?_
      refine one_ (i := 15) (N := some 52) (w_ 18 65535) rfl rfl (one_of HT_.out (by kernel_rfl)) (by decide) (fun K hK => ?_)
      refine goes_ Try.func38 (by kernel_rfl) rfl #[.agg #[.int .i64 ((rd_T51 l0 x32_2).f0), .int .i64 ((rd_T51 l0 x32_2).f1.f0), .int .i64 ((rd_T51 l0 x32_2).f1.f1), .int .i64 ((rd_T51 l0 x32_2).f2.f0), .int .i64 ((rd_T51 l0 x32_2).f2.f1)]] (by rfl) rfl rfl (by (try simp only [List.map_toArray, List.map_cons, List.map_nil]); first | done | rfl | (simp only [List.length_drop, List.length_take]; rfl)) ?_
      with_reducible refine (piecewise_numbers.calls ((rd_T51 l0 x32_2).f0) ((rd_T51 l0 x32_2).f1.f0) ((rd_T51 l0 x32_2).f1.f1) ((rd_T51 l0 x32_2).f2.f0) ((rd_T51 l0 x32_2).f2.f1) false _ A23.out).mono ?_
      rintro e w34 ⟨rfl, hb⟩
      refine ⟨_, rfl, ?_⟩
      replace BK111 := mk_ (blk_below (kk_ BK111) hb)
      replace HB := mk_ (below_step (bs_ HB GE111.out) hb)
      (try clear hb)
      refine hK.out _ _ ⟨(blk_cell BK111.out 0).trans rfl, (blk_cell BK111.out 1).trans rfl, (blk_cell BK111.out 2).trans rfl, (blk_cell BK111.out 3).trans rfl, (blk_cell BK111.out 4).trans rfl, (cb_ HB hw112_0), (cb_ HB hw112_1), (cb_ HB hw112_2), (cb_ HB hw112_3), (cb_ HB hw112_4)⟩ (fun hHeld => ?_)
      clear hK K
      refine norm_ (a' := ?_) ?_ ?_
      rotate_left
      ·show Act.put _ (some 52) _ = _
       simp only [Act.put, sI_, s0_, sS_, i64_w, i32_w]
       rfl
      refine pu_ 16 53 (w_ 18 131071) rfl HT_ ?_
      refine pu_ 17 54 (w_ 18 262143) rfl HT_ ?_
      refine done_ (done_of HT_.out (by kernel_rfl)) ?_
      try go_wp2
      go_ret
      exact ⟨by first | rfl | (simp [errW_none, errW_some] <;> rfl) | (simp only [← hji15]; first | rfl | (simp [errW_none, errW_some] <;> rfl)) | (simp [*, errW_none, errW_some] <;> rfl), bs1_ HB GE111⟩
end
section
def piecewise_lineOf.f (a0_0 : Int) (a0_1 : Int) (a0_2 : Int) (a0_3 : Int) (a0_4 : Int) : Option (Int × Int × Int × Int) := some (wrap64 (a0_1 * a0_4), wrap64 (a0_3 * a0_2), wrap64 (a0_2 * a0_4), a0_0)
theorem piecewise_lineOf.calls (a0_0 : Int) (a0_1 : Int) (a0_2 : Int) (a0_3 : Int) (a0_4 : Int) (r1 : Int) (r2 : Int) (r3 : Int) (r4 : Int) (w : World) (h : piecewise_lineOf.f a0_0 a0_1 a0_2 a0_3 a0_4 = some (r1, r2, r3, r4)) :
  Calls Try.prog 46 #[.agg #[.int .i64 a0_0, .int .i64 a0_1, .int .i64 a0_2, .int .i64 a0_3, .int .i64 a0_4]] w fun e w' => e = .returned (.agg #[.int .i64 r1, .int .i64 r2, .int .i64 r3, .int .i64 r4]) ∧ Below w.heap.size w w' := by
 have hu51 := Try.underlying51
 have hu54 := Try.underlying54
 have HB := mk_ (Below.refl w.heap.size w)
 have H : (some (wrap64 (a0_1 * a0_4), wrap64 (a0_3 * a0_2), wrap64 (a0_2 * a0_4), a0_0)) = some (r1, r2, r3, r4) := h
 clear h
 simp only [Option.some.injEq, Prod.mk.injEq] at H
 obtain ⟨rfl, rfl, rfl, rfl⟩ := H
 go_enter Try.func46, Try.ntmps46
 go_wp2_with (first | ((with_reducible refine gate_dst (N := 1) rfl ?_); refine box_event ?hg (N := 1) ?hd (cs := #[.int .i64 a0_0, .int .i64 a0_1, .int .i64 a0_2, .int .i64 a0_3, .int .i64 a0_4]) (t := 51) ?hr ?_; (case hd => rfl); (case hg => rfl); (case hr => first | (go_simp; done) | (go_simp; rfl)); intro gb115 hg w2 hbox hb; have BK115 := mk_ (hbox); have GW115 := mk_ (bz_ hg (bb_ HB)); have GE115 := mk_ (bz_ hg (bb_ HB)); replace HB := mk_ (below_step (bb_ HB) hb); clear hb hbox hg) | ((with_reducible refine gate_dst (N := 2) rfl ?_); refine box_event ?hg (N := 2) ?hd (cs := #[.int .i64 0, .int .i64 0, .int .i64 0, .int .i64 0]) (t := 54) ?hr ?_; (case hd => rfl); (case hg => rfl); (case hr => first | (go_simp; done) | (go_simp; rfl)); intro gb116 hg w3 hbox hb; have BK116 := mk_ (hbox); have GW116 := mk_ (bz_ hg (bs_ HB GE115.out)); have GE116 := mk_ (bz_ hg (bs_ HB GE115.out)); replace HB := mk_ (below_step (bs_ HB GE115.out) hb); have NB115_116 := mk_ (bl_ hg (kk_ BK115)); have NB116_115 := mk_ (bg_ hg (kk_ BK115)); replace BK115 := mk_ (blk_below (kk_ BK115) hb); clear hb hbox hg; have hnb4 := NB115_116.out; have hnc4 := NB116_115.out; have hcz5_0 := bc0_ BK115.out; have hcz5_1 := bc1_ BK115.out; have hcz5_2 := bc2_ BK115.out; have hcz5_3 : w3.cell? ⟨gb115, 3, none⟩ = some (.int .i64 a0_3) := (blk_cell BK115.out 3).trans rfl; have hcz5_4 : w3.cell? ⟨gb115, 4, none⟩ = some (.int .i64 a0_4) := (blk_cell BK115.out 4).trans rfl; have hfz5_0 := blk_frozen BK115.out 0; have hfz5_1 := blk_frozen BK115.out 1; have hfz5_2 := blk_frozen BK115.out 2; have hfz5_3 := blk_frozen BK115.out 3; have hfz5_4 := blk_frozen BK115.out 4; have hcz6_0 := bc0_ BK116.out; have hcz6_1 := bc1_ BK116.out; have hcz6_2 := bc2_ BK116.out; have hcz6_3 : w3.cell? ⟨gb116, 3, none⟩ = some (.int .i64 0) := (blk_cell BK116.out 3).trans rfl; have hfz6_0 := blk_frozen BK116.out 0; have hfz6_1 := blk_frozen BK116.out 1; have hfz6_2 := blk_frozen BK116.out 2; have hfz6_3 := blk_frozen BK116.out 3))
 refine bodyPost_ret (results_cell_row rfl _ _ gb116 54 #[.int .i64 (wrap64 (a0_1 * a0_4)), .int .i64 (wrap64 (a0_3 * a0_2)), .int .i64 (wrap64 (a0_2 * a0_4)), .int .i64 a0_0] (0, 0) _ rfl (by (with_reducible repeat (first | refine blk_drewN ?_ _ | refine blk_drew ?_ | refine blk_alloc ?_ _)); refine blk_put (cs := #[.int .i64 (wrap64 (a0_1 * a0_4)), .int .i64 (wrap64 (a0_3 * a0_2)), .int .i64 (wrap64 (a0_2 * a0_4)), .int .i64 0]) ?_ 3 _ rfl; (with_reducible repeat (first | refine blk_drewN ?_ _ | refine blk_drew ?_ | refine blk_alloc ?_ _)); refine blk_put (cs := #[.int .i64 (wrap64 (a0_1 * a0_4)), .int .i64 (wrap64 (a0_3 * a0_2)), .int .i64 0, .int .i64 0]) ?_ 2 _ rfl; (with_reducible repeat (first | refine blk_drewN ?_ _ | refine blk_drew ?_ | refine blk_alloc ?_ _)); refine blk_put (cs := #[.int .i64 (wrap64 (a0_1 * a0_4)), .int .i64 0, .int .i64 0, .int .i64 0]) ?_ 1 _ rfl; (with_reducible repeat (first | refine blk_drewN ?_ _ | refine blk_drew ?_ | refine blk_alloc ?_ _)); refine blk_put (cs := #[.int .i64 0, .int .i64 0, .int .i64 0, .int .i64 0]) ?_ 0 _ rfl; (with_reducible repeat (first | refine blk_drewN ?_ _ | refine blk_drew ?_ | refine blk_alloc ?_ _)); exact BK116.out) Try.underlying54 rfl (by kernel_rfl)) rfl ?_
 exact ⟨ew_, bs2_ HB GE115 GE116⟩
end
section
open Go.Proofs.YtmhimmodigeeiaaH
def bsearch (P : Int → Bool) : Nat → Int → Int → Int
 | 0, i, _ => i
 | k + 1, i, j => if i < j then (if P ((i + j) / 2) = true then bsearch P k i ((i + j) / 2) else bsearch P k ((i + j) / 2 + 1) j) else i
theorem bsearch_spec (P : Int → Bool) (lo hi : Int) (hm : ∀ a b, lo ≤ a → a ≤ b → b < hi → P a = true → P b = true) : ∀ (k : Nat) (i j : Int), lo ≤ i → i ≤ j → j ≤ hi → j - i ≤ k → (∀ a, lo ≤ a → a < i → P a = false) → (j < hi → P j = true) →
  lo ≤ bsearch P k i j ∧ bsearch P k i j ≤ hi ∧ (∀ a, lo ≤ a → a < bsearch P k i j → P a = false) ∧ (bsearch P k i j < hi → P (bsearch P k i j) = true) := by
 intro k
 induction k with
 | zero =>
  intro i j h1 h2 h3 h4 h5 h6
  have e : i = j := by omega
  subst e
  exact ⟨h1, h3, h5, h6⟩
 | succ k ih =>
  intro i j h1 h2 h3 h4 h5 h6
  unfold bsearch
  by_cases hij : i < j
  ·rw [if_pos hij]
   have m1 : i ≤ (i + j) / 2 := by omega
   have m2 : (i + j) / 2 < j := by omega
   by_cases hp : P ((i + j) / 2) = true
   ·rw [if_pos hp]
    exact ih i _ h1 m1 (by omega) (by omega) h5 (fun _ => hp)
   ·rw [if_neg hp]
    refine ih _ j (by omega) (by omega) h3 (by omega) (fun a ha1 ha2 => ?_) h6
    cases hpa : P a with
    | false => rfl
    | true => exact absurd (hm a _ ha1 (by omega) (by omega) hpa) hp
  ·rw [if_neg hij]
   have e : i = j := by omega
   subst e
   exact ⟨h1, h3, h5, h6⟩
def Even (D : Int → Int) : Prop := ∃ B, ∀ y z, D z - D y = B * (z - y)
theorem even_down {D : Int → Int} (h : Even D) {x y z : Int} (hx : 0 < D x) (hxy : x ≤ y) (hyz : y ≤ z) (hy : D y ≤ 0) : D z ≤ 0 := by
 obtain ⟨B, hB⟩ := h
 have h1 := hB x y
 have h2 := hB y z
 have hlt : B < 0 := by
  rcases Int.lt_or_le B 0 with h | h
  ·exact h
  ·have := Int.mul_nonneg h (show 0 ≤ y - x by omega)
   omega
 have := Int.mul_nonneg (show 0 ≤ -B by omega) (show 0 ≤ z - y by omega)
 rw [Int.neg_mul] at this
 omega
theorem even_up {D : Int → Int} (h : Even D) {x y z : Int} (hx : D x ≤ 0) (hxy : x ≤ y) (hyz : y ≤ z) (hy : 0 < D y) : 0 < D z := by
 obtain ⟨B, hB⟩ := h
 have h1 := hB x y
 have h2 := hB y z
 have hlt : 0 < B := by
  rcases Int.lt_or_le 0 B with h | h
  ·exact h
  ·have := Int.mul_nonneg (show 0 ≤ -B by omega) (show 0 ≤ y - x by omega)
   rw [Int.neg_mul] at this
   omega
 have := Int.mul_nonneg (show 0 ≤ B by omega) (show 0 ≤ z - y by omega)
 omega
def rsearch (P : Int → Bool) : Nat → Int → Int → Int
 | 0, _, hi => hi
 | k + 1, lo, hi => if hi - lo > 1 then (if P ((lo + hi) / 2) = true then rsearch P k ((lo + hi) / 2) hi else rsearch P k lo ((lo + hi) / 2)) else hi
theorem rsearch_spec (P : Int → Bool) (x e : Int) (hm : ∀ a b, x ≤ a → a ≤ b → b < e → P a = false → P b = false) : ∀ (k : Nat) (lo hi : Int), x ≤ lo → lo < hi → hi ≤ e → hi - lo ≤ k + 1 → P lo = true → (hi < e → P hi = false) →
  lo < rsearch P k lo hi ∧ rsearch P k lo hi ≤ hi ∧ (∀ a, x ≤ a → a < rsearch P k lo hi → P a = true) ∧ (rsearch P k lo hi < e → P (rsearch P k lo hi) = false) := by
 intro k
 have base : ∀ lo hi : Int, x ≤ lo → lo < hi → hi ≤ e → ¬ hi - lo > 1 → P lo = true → (∀ a, x ≤ a → a < hi → P a = true) := fun lo hi h1 h2 h3 h4 h5 a ha1 ha2 => by
  cases hpa : P a with
  | true => rfl
  | false => rw [hm a lo ha1 (by omega) (by omega) hpa] at h5; cases h5
 induction k with
 | zero =>
  intro lo hi h1 h2 h3 h4 h5 h6
  exact ⟨h2, Int.le_refl _, base lo hi h1 h2 h3 (by omega) h5, h6⟩
 | succ k ih =>
  intro lo hi h1 h2 h3 h4 h5 h6
  unfold rsearch
  by_cases hg : hi - lo > 1
  ·rw [if_pos hg]
   by_cases hp : P ((lo + hi) / 2) = true
   ·rw [if_pos hp]
    have := ih ((lo + hi) / 2) hi (by omega) (by omega) h3 (by omega) hp h6
    exact ⟨by omega, this.2⟩
   ·rw [if_neg hp]
    have hp' : P ((lo + hi) / 2) = false := by simpa using hp
    have := ih lo ((lo + hi) / 2) h1 (by omega) (by omega) (by omega) h5 (fun _ => hp')
    exact ⟨this.1, by omega, this.2.2⟩
  ·rw [if_neg hg]
   exact ⟨h2, Int.le_refl _, base lo hi h1 h2 h3 hg h5, h6⟩
theorem find_search (n : Int) (b1 b2 : Nat) (P : Int → Bool) (w : World) (hn0 : 0 ≤ n) (hn1 : n ≤ 1000000000) (hf : ∀ (h : Int) (W : World), 0 ≤ h → h < n → Below w.heap.size w W → Calls Try.prog 56 #[.int .i64 h, .pointer (some ⟨b1, 0, none⟩), .pointer (some ⟨b2, 0, none⟩)] W fun e W' => e = .returned (.bool (P h)) ∧ Below W.heap.size W W') :
  Calls Try.prog 50 #[.int .i64 n, .func (.func 56) #[] #[.pointer (some ⟨b1, 0, none⟩), .pointer (some ⟨b2, 0, none⟩)]] w fun e w' => e = .returned (.int .i64 (bsearch P n.toNat 0 n)) ∧ Below w.heap.size w w' := by
 have HF := mk_ hf
 have HN := mk_ (And.intro hn0 hn1)
 have HB := mk_ (Below.refl w.heap.size w)
 obtain ⟨r, hr⟩ : ∃ r, r = bsearch P n.toNat 0 n := ⟨_, rfl⟩
 have HRS := mk_ hr.symm
 rw [← hr]
 clear hf hn0 hn1 hr
 go_enter Try.func50, Try.ntmps50
 go_wp2
 go_loopg [5, 6] n.toNat (fun kq v5 v6 w' => ∃ (i j : Int), v5 = .int .i64 i ∧ v6 = .int .i64 j ∧ Aside0 (bsearch P kq i j = r) ∧ Aside0 (0 ≤ i ∧ i ≤ j ∧ j ≤ n ∧ j - i ≤ kq) ∧ Aside0 (Below w.heap.size w w'))
 case atStart => exact ⟨0, n, rfl, rfl, HRS, ⟨by have := HN.out; omega⟩, HB⟩
 case round =>
  obtain ⟨i, j, rfl, rfl, HS, HK, HB⟩ := hrel
  by_cases hlt : i < j
  ·have c1 : decide (i < j) = true := decide_eq_true hlt
   obtain ⟨kk, hkk⟩ : ∃ kk, gk = kk + 1 := ⟨gk - 1, by have := HK.out; omega⟩
   have hz1 : i + j ≤ 9223372036854775807 := by have := HK.out; have := HN.out; omega
   have hz2 : -9223372036854775808 ≤ i + j := by have := HK.out; omega
   have hz3 : 0 ≤ i + j := by have := HK.out; omega
   have hz4 : i + j ≤ 18446744073709551615 := by omega
   have HM := mk_ (show 0 ≤ (i + j) / 2 ∧ (i + j) / 2 < n by have := HK.out; omega)
   have hz5 : (i + j) / 2 + 1 ≤ 9223372036854775807 := by omega
   have hz6 : -9223372036854775808 ≤ (i + j) / 2 + 1 := by omega
   have HLT := mk_ hlt
   have HKK := mk_ hkk
   have hs := HS.out
   rw [hkk] at hs
   unfold bsearch at hs
   rw [if_pos hlt] at hs
   clear hlt hkk
   cases hp : P ((i + j) / 2) with
   | true =>
    rw [hp, if_pos rfl] at hs
    have HP := mk_ hp
    have HS1 := mk_ hs
    clear hp hs
    go_wp2_with (first | ((with_reducible refine (HF.out ((i + j) / 2) _ HM.out.1 HM.out.2 HB.out).mono ?_); rintro e w1 ⟨rfl, hb⟩; have HB1 := mk_ hb; clear hb; rw [HP.out]))
    go_roundg kk
    case measure => have := HKK.out; omega
    case rel => exact ⟨i, (i + j) / 2, rfl, rfl, HS1, ⟨by have := HK.out; have := HLT.out; have := HKK.out; omega⟩, ⟨below_step HB.out HB1.out⟩⟩
   | false =>
    rw [hp, if_neg (by decide)] at hs
    have HP := mk_ hp
    have HS1 := mk_ hs
    clear hp hs
    go_wp2_with (first | ((with_reducible refine (HF.out ((i + j) / 2) _ HM.out.1 HM.out.2 HB.out).mono ?_); rintro e w1 ⟨rfl, hb⟩; have HB1 := mk_ hb; clear hb; rw [HP.out]))
    go_roundg kk
    case measure => have := HKK.out; omega
    case rel => exact ⟨(i + j) / 2 + 1, j, rfl, rfl, HS1, ⟨by have := HK.out; have := HLT.out; have := HKK.out; omega⟩, ⟨below_step HB.out HB1.out⟩⟩
  ·have c1 : decide (i < j) = false := decide_eq_false hlt
   have HE := mk_ (show r = i by
    rw [← HS.out]
    cases gk with
    | zero => rfl
    | succ k => unfold bsearch; rw [if_neg hlt])
   clear hlt
   go_wp2
   go_ret
   exact ⟨by rw [HE.out]; rfl, HB.out⟩
structure LN where
 n : Int
 s : Int
 d : Int
 fr : Int
def lineL (p : S51) : LN := ⟨wrap64 (p.f1.f0 * p.f2.f1), wrap64 (p.f2.f0 * p.f1.f1), wrap64 (p.f1.f1 * p.f2.f1), p.f0⟩
theorem lineL_calls (p : S51) (w : World) : Calls Try.prog 46 #[.agg #[.int .i64 p.f0, .int .i64 p.f1.f0, .int .i64 p.f1.f1, .int .i64 p.f2.f0, .int .i64 p.f2.f1]] w fun e w' => e = .returned (.agg #[.int .i64 (lineL p).n, .int .i64 (lineL p).s, .int .i64 (lineL p).d, .int .i64 (lineL p).fr]) ∧ Below w.heap.size w w' :=
 piecewise_lineOf.calls p.f0 p.f1.f0 p.f1.f1 p.f2.f0 p.f2.f1 _ _ _ _ w rfl
def laterB (f : List S51) (x h : Int) : Bool := decide (x < (rd_T51 f h).f0)
theorem find1_calls (b1 b2 : Nat) (A0 : Option Addr) (c0 : Nat) (f : List S51) (x h : Int) (w : World) (h1 : w.heap[b1]? = some (.cells #[.slice A0 f.length c0] 22 (0, 0))) (h2 : w.heap[b2]? = some (.cells #[.int .i64 x] 3 (0, 0))) (hC : Kd.C k51 w A0 f.length f) (h0 : 0 ≤ h) (hh : h < f.length) :
  Calls Try.prog 56 #[.int .i64 h, .pointer (some ⟨b1, 0, none⟩), .pointer (some ⟨b2, 0, none⟩)] w fun e w' => e = .returned (.bool (laterB f x h)) ∧ Below w.heap.size w w' := by
 have hu51 := Try.underlying51
 have hc1 : w.drew.cell? ⟨b1, 0, none⟩ = some (.slice A0 f.length c0) := (blk_cell (show w.drew.heap[b1]? = _ from h1) 0).trans rfl
 have hc2 : w.drew.cell? ⟨b2, 0, none⟩ = some (.int .i64 x) := (blk_cell (show w.drew.heap[b2]? = _ from h2) 0).trans rfl
 obtain ⟨ad, ea, hx0, _⟩ := at_T51 (Kd.C_drew hC) h h0 hh
 have d2 : (0 ≤ h) = True := eq_true h0
 have d3 : (h < f.length) = True := eq_true hh
 subst ea
 clear h1 h2 hC h0 hh
 go_enter Try.func56, Try.ntmps56
 go_wp2
 go_region
 go_wp2
 go_ret
 exact ⟨rfl, below_drew (Below.refl _ _)⟩
def laterN (f : List S51) (x : Int) : Int := bsearch (laterB f x) f.length 0 (f.length : Int)
def piecewise_find.f (l0 : List S51) (a1 : Int) : Option (Int × Int × Int × Int) :=
 if l0.length ≤ 1000000 ∧ 1 ≤ laterN l0 a1 ∧ laterN l0 a1 ≤ l0.length then some ((lineL (rd_T51 l0 (laterN l0 a1 - 1))).n, (lineL (rd_T51 l0 (laterN l0 a1 - 1))).s, (lineL (rd_T51 l0 (laterN l0 a1 - 1))).d, (lineL (rd_T51 l0 (laterN l0 a1 - 1))).fr) else none
theorem piecewise_find.calls (A0 : Option Addr) (c0 : Nat) (l0 : List S51) (a1 : Int) (r1 r2 r3 r4 : Int) (w : World) (hr0 : Kd.C k51 w A0 l0.length l0) (hc0 : l0.length ≤ c0) (h : piecewise_find.f l0 a1 = some (r1, r2, r3, r4)) :
  Calls Try.prog 34 #[.slice A0 l0.length c0, .int .i64 a1] w fun e w' => e = .returned (.agg #[.int .i64 r1, .int .i64 r2, .int .i64 r3, .int .i64 r4]) ∧ Below w.heap.size w w' := by
 have hu51 := Try.underlying51
 have hu54 := Try.underlying54
 unfold piecewise_find.f at h
 by_cases hf : l0.length ≤ 1000000 ∧ 1 ≤ laterN l0 a1 ∧ laterN l0 a1 ≤ l0.length
 case neg => rw [if_neg hf] at h; cases h
 rw [if_pos hf] at h
 simp only [Option.some.injEq, Prod.mk.injEq] at h
 obtain ⟨e1, e2, e3, e4⟩ := h
 obtain ⟨hl, hb1, hb2⟩ := hf
 obtain ⟨m, hm⟩ : ∃ m, m = laterN l0 a1 := ⟨_, rfl⟩
 rw [← hm] at e1 e2 e3 e4 hb1 hb2
 obtain ⟨i, rfl⟩ : ∃ i, m = i + 1 := ⟨m - 1, by omega⟩
 rw [Int.add_sub_cancel] at e1 e2 e3 e4
 have HMM := mk_ (show bsearch (laterB l0 a1) ((l0.length : Int)).toNat 0 (l0.length : Int) = i + 1 by rw [hm]; rfl)
 obtain ⟨q, hq⟩ : ∃ q, q = rd_T51 l0 i := ⟨_, rfl⟩
 rw [← hq] at e1 e2 e3 e4
 have HQ := mk_ hq
 have HE := mk_ (show ((lineL q).n = r1 ∧ (lineL q).s = r2) ∧ (lineL q).d = r3 ∧ (lineL q).fr = r4 from ⟨⟨e1, e2⟩, e3, e4⟩)
 have HR0 := mk_ hr0
 have HL := mk_ hl
 have HMB := mk_ (And.intro hb1 hb2)
 have d2 : (0 ≤ i) = True := eq_true (by omega)
 have d3 : (i < l0.length) = True := eq_true (by omega)
 have hz1 : i ≤ 9223372036854775807 := by omega
 have hz2 : -9223372036854775808 ≤ i := by omega
 clear hr0 hc0 hm e1 e2 e3 e4 hb1 hb2 hl hq
 have HB := mk_ (Below.refl w.heap.size w)
 go_enter Try.func34, Try.ntmps34
 go_wp2_with (first | ((with_reducible refine gate_dst (N := 2) rfl ?_); refine box_event ?hg (N := 2) ?hd (cs := #[.slice A0 l0.length c0]) (t := 22) ?hr ?_; (case hd => rfl); (case hg => rfl); (case hr => first | (go_simp; done) | (go_simp; rfl)); intro g1 hg_A w1 hbox_ hb_; have n0_ := mk_ (below_step HB.out hb_); have BA := mk_ hbox_; have GA := mk_ (show w.heap.size ≤ g1 by rw [hg_A]; exact below_size HB.out); have EA := mk_ hg_A; have hcA0 : w1.cell? ⟨g1, 0, none⟩ = some (.slice A0 l0.length c0) := (blk_cell hbox_ 0).trans rfl; have hfA0 := blk_frozen hbox_ 0; clear HB hg_A hbox_ hb_; have HB := n0_; clear n0_) | ((with_reducible refine gate_dst (N := 3) rfl ?_); refine box_event ?hg (N := 3) ?hd (cs := #[.int .i64 a1]) (t := 3) ?hr ?_; (case hd => rfl); (case hg => rfl); (case hr => first | (go_simp; done) | (go_simp; rfl)); intro g2 hg_B w2 hbox_ hb_; have n0_ := mk_ (below_step HB.out hb_); have BB := mk_ hbox_; have GB := mk_ (show w.heap.size ≤ g2 by rw [hg_B]; exact below_size HB.out); have EB := mk_ hg_B; have hcB0 : w2.cell? ⟨g2, 0, none⟩ = some (.int .i64 a1) := (blk_cell hbox_ 0).trans rfl; have hfB0 := blk_frozen hbox_ 0; have BA := mk_ (blk_below BA.out hb_); replace hcA0 := (hb_.cell (World.block_lt_of_cell? _ _ hcA0)).trans hcA0; clear HB hg_B hbox_ hb_; have HB := n0_; clear n0_) | ((with_reducible refine gate_dst (N := 4) rfl ?_); refine box_event ?hg (N := 4) ?hd (cs := #[.int .i64 0, .int .i64 0, .int .i64 0, .int .i64 0]) (t := 54) ?hr ?_; (case hd => rfl); (case hg => rfl); (case hr => first | (go_simp; done) | (go_simp; rfl)); intro g3 hg_C w3 hbox_ hb_; have n0_ := mk_ (below_step HB.out hb_); have BC := mk_ hbox_; have GC := mk_ (show w.heap.size ≤ g3 by rw [hg_C]; exact below_size HB.out); have EC := mk_ hg_C; have hcC0 : w3.cell? ⟨g3, 0, none⟩ = some (.int .i64 0) := (blk_cell hbox_ 0).trans rfl; have hfC0 := blk_frozen hbox_ 0; have hcC1 : w3.cell? ⟨g3, 1, none⟩ = some (.int .i64 0) := (blk_cell hbox_ 1).trans rfl; have hfC1 := blk_frozen hbox_ 1; have hcC2 : w3.cell? ⟨g3, 2, none⟩ = some (.int .i64 0) := (blk_cell hbox_ 2).trans rfl; have hfC2 := blk_frozen hbox_ 2; have hcC3 : w3.cell? ⟨g3, 3, none⟩ = some (.int .i64 0) := (blk_cell hbox_ 3).trans rfl; have hfC3 := blk_frozen hbox_ 3; have BA := mk_ (blk_below BA.out hb_); have BB := mk_ (blk_below BB.out hb_); replace hcA0 := (hb_.cell (World.block_lt_of_cell? _ _ hcA0)).trans hcA0; replace hcB0 := (hb_.cell (World.block_lt_of_cell? _ _ hcB0)).trans hcB0; clear HB hg_C hbox_ hb_; have HB := n0_; clear n0_) | (go_at_call 50; (with_reducible refine (find_search (l0.length : Int) g1 g2 (laterB l0 a1) _ (by omega) (by have := HL.out; omega) (fun h W h0 hh hW => find1_calls g1 g2 A0 c0 l0 a1 h W (blk_below BA.out hW) (blk_below BB.out hW) (Kd.C_below HR0.out (below_step HB.out hW)) h0 hh)).mono ?_); rintro e w4 ⟨rfl, hb_⟩; rw [HMM.out]; have n0_ := mk_ (below_step HB.out hb_); have BA := mk_ (blk_below BA.out hb_); have BB := mk_ (blk_below BB.out hb_); have BC := mk_ (blk_below BC.out hb_); replace hcA0 := (hb_.cell (World.block_lt_of_cell? _ _ hcA0)).trans hcA0; replace hcB0 := (hb_.cell (World.block_lt_of_cell? _ _ hcB0)).trans hcB0; replace hcC0 := (hb_.cell (World.block_lt_of_cell? _ _ hcC0)).trans hcC0; replace hcC1 := (hb_.cell (World.block_lt_of_cell? _ _ hcC1)).trans hcC1; replace hcC2 := (hb_.cell (World.block_lt_of_cell? _ _ hcC2)).trans hcC2; replace hcC3 := (hb_.cell (World.block_lt_of_cell? _ _ hcC3)).trans hcC3; clear hfC0 hfC1 hfC2 hfC3; have hfC0 := blk_frozen BC.out 0; have hfC1 := blk_frozen BC.out 1; have hfC2 := blk_frozen BC.out 2; have hfC3 := blk_frozen BC.out 3; obtain ⟨ad, ea, hx0, hx1, hx2, hx3, hx4⟩ := at_T51 (Kd.C_below HR0.out n0_.out) i (by have := HMB.out; omega) (by have := HMB.out; omega); subst ea; rw [← HQ.out] at hx0 hx1 hx2 hx3 hx4; clear HB hb_; have HB := n0_; clear n0_) | (go_at_call 46; (with_reducible refine (lineL_calls q _).mono ?_); rintro e w5 ⟨rfl, hb_⟩; have n0_ := mk_ (below_step HB.out hb_); have BC := mk_ (blk_below BC.out hb_); replace hcC0 := (hb_.cell (World.block_lt_of_cell? _ _ hcC0)).trans hcC0; replace hcC1 := (hb_.cell (World.block_lt_of_cell? _ _ hcC1)).trans hcC1; replace hcC2 := (hb_.cell (World.block_lt_of_cell? _ _ hcC2)).trans hcC2; replace hcC3 := (hb_.cell (World.block_lt_of_cell? _ _ hcC3)).trans hcC3; clear hfC0 hfC1 hfC2 hfC3; have hfC0 := blk_frozen BC.out 0; have hfC1 := blk_frozen BC.out 1; have hfC2 := blk_frozen BC.out 2; have hfC3 := blk_frozen BC.out 3; clear HB hb_; have HB := n0_; clear n0_))
 refine bodyPost_ret (results_cell_row rfl _ _ g3 54 #[.int .i64 (lineL q).n, .int .i64 (lineL q).s, .int .i64 (lineL q).d, .int .i64 (lineL q).fr] (0, 0) _ rfl (blk_put (blk_put (blk_put (blk_put BC.out 0 _ rfl) 1 _ rfl) 2 _ rfl) 3 _ rfl) Try.underlying54 rfl (by kernel_rfl)) rfl ?_
 refine ⟨?_, below_set (below_set (below_set (below_set HB.out GC.out) GC.out) GC.out) GC.out⟩
 rw [← HE.out.1.1, ← HE.out.1.2, ← HE.out.2.1, ← HE.out.2.2]
end
section
def piecewise_lowest.l0 : Nat → Int → Int → Int → Int → Option (Int × Int)
 | 0, _, _, _, _ => none
 | k + 1, x0, x1, x5, x6 => if x6 > 0 then (if x6 = 0 then (none) else (piecewise_lowest.l0 k x0 x1 x6 (Int.tmod x5 x6))) else (if x5 = 0 then (none) else (some (wrap64 (Int.tdiv x0 x5), wrap64 (Int.tdiv x1 x5))))
def piecewise_lowest.f (k : Nat) (a0 : Int) (a1 : Int) : Option (Int × Int) := piecewise_lowest.l0 k a0 a1 (mx a0 (wrap64 (-a0))) a1
theorem piecewise_lowest.mono_l : ∀ k, (∀ y0 y1 y2 y3, LeO (piecewise_lowest.l0 k y0 y1 y2 y3) (piecewise_lowest.l0 (k + 1) y0 y1 y2 y3))
 | 0 => fun _ _ _ _ r h => by simp [piecewise_lowest.l0] at h
 | k + 1 => by
  have ih0 := piecewise_lowest.mono_l k
  ·intro y0 y1 y2 y3
   unfold piecewise_lowest.l0
   repeat' first
   | (with_reducible exact ih0 _ _ _ _)
   | (with_reducible exact LeO.refl _)
   | (with_reducible exact LeO.none _)
   | (with_reducible refine LeO.ite ?_ ?_)
   | (with_reducible refine LeO.bind ?_ (fun _ => ?_))
   | exact ih0 _ _ _ _
   | exact LeO.none _
   | refine LeO.ite ?_ ?_
   | refine LeO.bind ?_ (fun _ => ?_)
theorem piecewise_lowest.mono : ∀ a0 a1 k, LeO (piecewise_lowest.f k a0 a1) (piecewise_lowest.f (k + 1) a0 a1) := by
 intro a0 a1 k
 have ih0 := piecewise_lowest.mono_l k
 unfold piecewise_lowest.f
 repeat' first
   | (with_reducible exact ih0 _ _ _ _)
   | (with_reducible exact LeO.refl _)
   | (with_reducible exact LeO.none _)
   | (with_reducible refine LeO.ite ?_ ?_)
   | (with_reducible refine LeO.bind ?_ (fun _ => ?_))
   | exact ih0 _ _ _ _
   | exact LeO.none _
   | refine LeO.ite ?_ ?_
   | refine LeO.bind ?_ (fun _ => ?_)
def piecewise_lowest.T4 : Bool × List (List Nat × List Nat) := (true, [([], []), ([], []), ([0, 1], [0, 1]), ([], []), ([], []), ([3, 4], [3, 4]), ([2, 5], [2, 5]), ([6, 0, 1, 2, 3, 4, 5, 6], [6])])
def piecewise_lowest.B4 : List Nat := [0, 0, 3, 0, 0, 24, 63, 127]
theorem piecewise_lowest.tab4 : rtab .any (opsOf Try.f35 4) = piecewise_lowest.T4 := by kernel_rfl
theorem piecewise_lowest.bits4 : waitsOk piecewise_lowest.T4.2 piecewise_lowest.B4 = true := by kernel_rfl
theorem piecewise_lowest.calls (k : Nat) (a0 : Int) (a1 : Int) (r1 : Int) (r2 : Int) (w : World) (h : piecewise_lowest.f k a0 a1 = some (r1, r2)) :
  Calls Try.prog 35 #[.int .i64 a0, .int .i64 a1] w fun e w' => e = .returned (.agg #[.int .i64 r1, .int .i64 r2]) ∧ Below w.heap.size w w' := by
 have hu24 := Try.underlying24
 have HB := mk_ (Below.refl w.heap.size w)
 have H : (piecewise_lowest.l0 k a0 a1 (mx a0 (wrap64 (-a0))) a1) = some (r1, r2) := h
 clear h
 obtain ⟨ji3, hji3⟩ : ∃ j_ : Int, (mx a0 (wrap64 (-a0))) = j_ := ⟨_, rfl⟩
 replace H : (piecewise_lowest.l0 k a0 a1 ji3 a1) = some (r1, r2) := by first | (rw [hji3] at H; exact H) | (simp only [hji3] at H ⊢; exact H)
 have hji3_ : (if a0 < (wrap64 (-a0)) then (wrap64 (-a0)) else a0) = ji3 := hji3
 have H' := mk_ H
 clear H
 go_enter Try.func35, Try.ntmps35
 go_wp2_with (first | ((with_reducible refine gate_dst (N := 4) rfl ?_); refine box_event ?hg (N := 4) ?hd (cs := #[.int .i64 0, .int .i64 0]) (t := 24) ?hr ?_; (case hd => rfl); (case hg => rfl); (case hr => first | (go_simp; done) | (go_simp; rfl)); intro gb117 hg w4 hbox hb; have BK117 := mk_ (hbox); have GW117 := mk_ (bz_ hg (bb_ HB)); have GE117 := mk_ (bz_ hg (bb_ HB)); replace HB := mk_ (below_step (bb_ HB) hb); clear hb hbox hg))
 go_loopg [5, 6] k (fun kq v5 v6 w' => ∃ (x5_1 : Int) (x6_1 : Int), v5 = .int .i64 x5_1 ∧ v6 = .int .i64 x6_1 ∧ Aside0 (piecewise_lowest.l0 kq a0 a1 x5_1 x6_1 = some (r1, r2)) ∧ Aside0 (kq ≤ k) ∧ Aside0 (w'.heap[gb117]? = some (.cells #[.int .i64 0, .int .i64 0] 24 (0, 0))) ∧ Aside0 (Below w.heap.size w w'))
 case atStart => exact ⟨(ji3), (a1), (by first | rfl | (simp; done) | (simp only [← hji3] <;> (first | rfl | simp)) | (simp [*]; done)), sd_, H', ⟨Nat.le_refl _⟩, ⟨kk_ BK117⟩, ⟨bs1_ HB GE117⟩⟩
 case round =>
  clear H'
  obtain ⟨x5_1, x6_1, rfl, rfl, HA, HK1, BK117, HB⟩ := hrel
  cases gk with
  | zero => exact absurd HA.out (by simp [piecewise_lowest.l0])
  | succ k1 =>
   have H := HA.out
   clear HA
   simp only [piecewise_lowest.l0] at H
   by_cases c5 : x6_1 > 0
   ·rw [if_pos c5] at H
    have c5b0 : decide (0 < x6_1) = true := decide_eq_true c5
    clear c5
    by_cases c6 : x6_1 = 0
    ·rw [if_pos c6] at H
     exact absurd H (by simp)
    rw [if_neg c6] at H
    have c6b0 : (x6_1 == 0) = false := beq_eq_false_iff_ne.mpr c6
    have c6b1 : (x6_1 != 0) = true := bne_iff_ne.mpr c6
    have H' := mk_ H
    clear H
    try go_wp2
    replace BK117 := mk_ (blk_drew BK117.out)
    replace HB := mk_ (below_drew1 HB.out)
    refine start_ (n := 6) (S := fun w' => True) (ds := []) #[n_, n_, n_, n_, n_, n_] (by kernel_rfl) rfl rfl trivial (fun hHeld => ?_)
    generalize wr.drew = w7 at BK117 HB hHeld ⊢
    refine pv_ 0 14 (w_ 6 1) rfl ?_
    refine pv_ 1 15 (w_ 6 3) rfl ?_
    refine pv_ 2 16 (w_ 6 7) rfl ?_
    refine pv_ 3 17 (w_ 6 15) rfl ?_
    refine pv_ 4 5 (w_ 6 31) rfl ?_
    refine pv_ 5 6 (w_ 6 63) rfl ?_
    refine done_ (by kernel_rfl) ?_
    try go_wp2
    go_roundg k1
    case measure => have := HK1.out; omega
    case rel => exact ⟨(x6_1), (Int.tmod x5_1 x6_1), sd_, sd_, H', ⟨by have := HK1.out; omega⟩, ⟨kk_ BK117⟩, ⟨bs1_ HB GE117⟩⟩
   rw [if_neg c5] at H
   have c5b0 : decide (0 < x6_1) = false := decide_eq_false c5
   clear c5
   by_cases c8 : x5_1 = 0
   ·rw [if_pos c8] at H
    exact absurd H (by simp)
   rw [if_neg c8] at H
   have c8b0 : (x5_1 == 0) = false := beq_eq_false_iff_ne.mpr c8
   have c8b1 : (x5_1 != 0) = true := bne_iff_ne.mpr c8
   simp only [Option.some.injEq, Prod.mk.injEq] at H
   obtain ⟨rfl, rfl⟩ := H
   try go_wp2
   replace BK117 := mk_ (blk_drew BK117.out)
   replace HB := mk_ (below_drew1 HB.out)
   refine start_ (n := 8) (S := fun w' => True) (ds := []) #[n_, n_, n_, n_, n_, n_, n_, n_] (by kernel_rfl) rfl rfl trivial (fun hHeld => ?_); refine with_tabW piecewise_lowest.tab4 piecewise_lowest.bits4 (fun HT_ HW_ => ?_)
   generalize wr.drew = w9 at BK117 HB hHeld ⊢
   refine pu_ 0 18 (w_ 8 1) rfl HT_ ?_
   refine pu_ 1 19 (w_ 8 3) rfl HT_ ?_
   refine pu_ 2 20 (w_ 8 7) rfl HT_ ?_
   refine pu_ 3 21 (w_ 8 15) rfl HT_ ?_
   refine pu_ 4 22 (w_ 8 31) rfl HT_ ?_
   refine pu_ 5 23 (w_ 8 63) rfl HT_ ?_
   refine pu_ 6 24 (w_ 8 127) rfl HT_ ?_
   refine one_ (i := 7) (N := none) (w_ 8 255) rfl rfl (one_of HT_.out (by kernel_rfl)) (by decide) (fun K hK => ?_)
   have hs10 : w9.cell? ⟨gb117, 0, none⟩ = some (.int .i64 0) := (blk_cell BK117.out 0).trans rfl
   have hfs10 := blk_frozen BK117.out 0
   have hs11 : w9.cell? ⟨gb117, 1, none⟩ = some (.int .i64 0) := (blk_cell BK117.out 1).trans rfl
   have hfs11 := blk_frozen BK117.out 1
   refine skip_ (w1 := ?_) (by rfl) rfl ?_ ?_
   rotate_left
   ·go_simp
    rfl
   refine hK.out _ _ trivial (fun hHeld => ?_)
   clear hK K
   refine done_ (done_of HT_.out (by kernel_rfl)) ?_
   try go_wp2
   refine bodyPost_ret (results_cell_row rfl _ _ gb117 24 #[.int .i64 (wrap64 (Int.tdiv a0 x5_1)), .int .i64 (wrap64 (Int.tdiv a1 x5_1))] (0, 0) _ rfl (by (with_reducible repeat (first | refine blk_drewN ?_ _ | refine blk_drew ?_ | refine blk_alloc ?_ _)); refine blk_put (cs := #[.int .i64 (wrap64 (Int.tdiv a0 x5_1)), .int .i64 0]) ?_ 1 _ rfl; (with_reducible repeat (first | refine blk_drewN ?_ _ | refine blk_drew ?_ | refine blk_alloc ?_ _)); refine blk_put (cs := #[.int .i64 0, .int .i64 0]) ?_ 0 _ rfl; (with_reducible repeat (first | refine blk_drewN ?_ _ | refine blk_drew ?_ | refine blk_alloc ?_ _)); exact BK117.out) Try.underlying24 rfl (by kernel_rfl)) rfl ?_
   exact ⟨by first | rfl | (simp [errW_none, errW_some] <;> rfl) | (simp only [← hji3]; first | rfl | (simp [errW_none, errW_some] <;> rfl)) | (simp [*, errW_none, errW_some] <;> rfl), bs1_ HB GE117⟩
end
section
def piecewise_line_at.f (a0_0 : Int) (a0_1 : Int) (a0_2 : Int) (a0_3 : Int) (a1 : Int) : Option (Int) := some (wrap64 (a0_0 + (wrap64 (a0_1 * (wrap64 (a1 - a0_3))))))
theorem piecewise_line_at.calls (a0_0 : Int) (a0_1 : Int) (a0_2 : Int) (a0_3 : Int) (a1 : Int) (r : Int) (w : World) (h : piecewise_line_at.f a0_0 a0_1 a0_2 a0_3 a1 = some r) :
  Calls Try.prog 36 #[.agg #[.int .i64 a0_0, .int .i64 a0_1, .int .i64 a0_2, .int .i64 a0_3], .int .i64 a1] w fun e w' => e = .returned (.int .i64 r) ∧ Below w.heap.size w w' := by
 have hu54 := Try.underlying54
 have HB := mk_ (Below.refl w.heap.size w)
 have H : (some (wrap64 (a0_0 + (wrap64 (a0_1 * (wrap64 (a1 - a0_3))))))) = some r := h
 clear h
 obtain rfl := Option.some.inj H
 go_enter Try.func36, Try.ntmps36
 go_wp2_with (first | ((with_reducible refine gate_dst (N := 2) rfl ?_); refine box_event ?hg (N := 2) ?hd (cs := #[.int .i64 a0_0, .int .i64 a0_1, .int .i64 a0_2, .int .i64 a0_3]) (t := 54) ?hr ?_; (case hd => rfl); (case hg => rfl); (case hr => first | (go_simp; done) | (go_simp; rfl)); intro gb118 hg w3 hbox hb; have BK118 := mk_ (hbox); have GW118 := mk_ (bz_ hg (bb_ HB)); have GE118 := mk_ (bz_ hg (bb_ HB)); replace HB := mk_ (below_step (bb_ HB) hb); clear hb hbox hg; have hcz4_0 := bc0_ BK118.out; have hcz4_1 := bc1_ BK118.out; have hcz4_2 := bc2_ BK118.out; have hcz4_3 : w3.cell? ⟨gb118, 3, none⟩ = some (.int .i64 a0_3) := (blk_cell BK118.out 3).trans rfl; have hfz4_0 := blk_frozen BK118.out 0; have hfz4_1 := blk_frozen BK118.out 1; have hfz4_2 := blk_frozen BK118.out 2; have hfz4_3 := blk_frozen BK118.out 3))
 go_ret
 exact ⟨ew_, bs1_ HB GE118⟩
end
end Go.Proofs.Ytmhimmodigeeiaa.P
end
