/- Part 1 of the proof of ChainNotWorse: what it alone needs. -/
import Derived.Test.YtocbiggglnpeoaaCTm
set_option linter.unusedVariables false
set_option linter.unusedSimpArgs false
section
namespace Go.Proofs.Ytocbiggglnpeoaa.P
open Go.RowKit Go.Proofs.YtocbiggglnpeoaaW.PrintWords Go.Proofs.YtocbiggglnpeoaaW.PrintLast Go.Proofs.YtocbiggglnpeoaaW.PrintMore
attribute [local go_sem] max2_int min2_int max_two min_two max_three min_three max_four min_four
set_option linter.unusedVariables false
set_option linter.unusedSimpArgs false
set_option maxHeartbeats 8000000
set_option maxRecDepth 100000
section
def cohousingref23_Ranking.l0 : Nat → List Int → Int → Int → Int → List Int → Option (List Int)
 | 0, _, _, _, _, _ => none
 | k + 1, x3, x4, x554000, x554001, x554002 => if x4 < (x554002.length : Int) then (if 0 ≤ x4 then (if x3.length < 17592186044416 then ((some (x3 ++ [rd x554002 x4] : List Int)).bind fun y555 => (if (rd x554002 x4) = x554001 then (some y555) else (cohousingref23_Ranking.l0 k y555 (wrap64 (x4 + 1)) x554000 x554001 x554002))) else (none)) else (none)) else (if x3.length < 17592186044416 then (some (x3 ++ [x554001])) else (none))
def cohousingref23_Ranking.f (k : Nat) (a0_0 : Int) (a0_1 : Int) (l0_2 : List Int) : Option (List Int) := cohousingref23_Ranking.l0 k ([] : List Int) 0 a0_0 a0_1 l0_2
theorem cohousingref23_Ranking.calls (k : Nat) (a0_0 : Int) (a0_1 : Int) (A0_2 : Option Addr) (c0_2 : Nat) (l0_2 : List Int) (r : List Int) (w : World) (hr0_2 : Kd.C (Kd.int .i64) w A0_2 l0_2.length l0_2) (hc0_2 : l0_2.length ≤ c0_2) (h : cohousingref23_Ranking.f k a0_0 a0_1 l0_2 = some r) :
  Calls Try.prog 26 #[.agg #[.int .i64 a0_0, .int .i64 a0_1, .slice A0_2 l0_2.length c0_2]] w fun e w' => ∃ v0_ : Value, e = .returned (v0_) ∧ Kd.R (Kd.int .i64) 3 w' w.heap.size (fun _ => True) v0_ r ∧ Below w.heap.size w w' := by
 have hu46 := Try.underlying46
 have HR0_2 := Aside0.mk hr0_2
 have HC0_2 := Aside0.mk hc0_2
 clear hr0_2 hc0_2
 have HB := Aside0.mk (Below.refl w.heap.size w)
 have H : (cohousingref23_Ranking.l0 k ([] : List Int) 0 a0_0 a0_1 l0_2) = some r := h
 clear h
 have H' := Aside0.mk H
 clear H
 go_enter Try.func26, Try.ntmps26
 go_wp2_with (first | ((with_reducible refine gate_dst (N := 1) rfl ?_); refine box_event ?hg (N := 1) ?hd (cs := #[.int .i64 a0_0, .int .i64 a0_1, .slice A0_2 l0_2.length c0_2]) (t := 46) ?hr ?_; (case hd => rfl); (case hg => rfl); (case hr => first | (go_simp; done) | (go_simp; rfl)); intro gb553 hg w2 hbox hb; have n0_ := Aside0.mk (below_step (bb_ HB) hb); have n1_ := Aside0.mk (hbox); have n2_ := Aside0.mk ((by rw [hg]; exact (below_size (bb_ HB)) : w.heap.size ≤ gb553)); have n3_ := Aside0.mk ((by rw [hg]; exact (below_size (bb_ HB)) : w.heap.size ≤ gb553)); clear HB; have HB := n0_; have BK553 := n1_; have GW553 := n2_; have GE553 := n3_; clear n0_ n1_ n2_ n3_; clear hb hbox hg))
 repeat (go_quiet (first | ((with_reducible refine gate_dst (N := 1) rfl ?_); refine box_event ?hg (N := 1) ?hd (cs := #[.int .i64 a0_0, .int .i64 a0_1, .slice A0_2 l0_2.length c0_2]) (t := 46) ?hr ?_; (case hd => rfl); (case hg => rfl); (case hr => first | (go_simp; done) | (go_simp; rfl)); intro gb553 hg w2 hbox hb; have n0_ := Aside0.mk (below_step (bb_ HB) hb); have n1_ := Aside0.mk (hbox); have n2_ := Aside0.mk ((by rw [hg]; exact (below_size (bb_ HB)) : w.heap.size ≤ gb553)); have n3_ := Aside0.mk ((by rw [hg]; exact (below_size (bb_ HB)) : w.heap.size ≤ gb553)); clear HB; have HB := n0_; have BK553 := n1_; have GW553 := n2_; have GE553 := n3_; clear n0_ n1_ n2_ n3_; clear hb hbox hg)); try go_wp2_with (first | ((with_reducible refine gate_dst (N := 1) rfl ?_); refine box_event ?hg (N := 1) ?hd (cs := #[.int .i64 a0_0, .int .i64 a0_1, .slice A0_2 l0_2.length c0_2]) (t := 46) ?hr ?_; (case hd => rfl); (case hg => rfl); (case hr => first | (go_simp; done) | (go_simp; rfl)); intro gb553 hg w2 hbox hb; have n0_ := Aside0.mk (below_step (bb_ HB) hb); have n1_ := Aside0.mk (hbox); have n2_ := Aside0.mk ((by rw [hg]; exact (below_size (bb_ HB)) : w.heap.size ≤ gb553)); have n3_ := Aside0.mk ((by rw [hg]; exact (below_size (bb_ HB)) : w.heap.size ≤ gb553)); clear HB; have HB := n0_; have BK553 := n1_; have GW553 := n2_; have GE553 := n3_; clear n0_ n1_ n2_ n3_; clear hb hbox hg)))
 go_loopg [3, 4] k (fun kq v3 v4 w' => ∃ (x3_1 : List Int) (x4_1 : Int), v4 = .int .i64 x4_1 ∧ Aside0 (cohousingref23_Ranking.l0 kq x3_1 x4_1 a0_0 a0_1 l0_2 = some r) ∧ Aside0 (kq ≤ k) ∧ Aside0 (Kd.R (Kd.int .i64) 3 w' w.heap.size (fun _ => True) v3 x3_1) ∧ Aside0 (w'.heap[gb553]? = some (.cells #[.int .i64 a0_0, .int .i64 a0_1, (.slice A0_2 l0_2.length c0_2)] 46 (0, 0))) ∧ Aside0 (Below w.heap.size w w'))
 case atStart => exact ⟨(([] : List Int)), (0), sd_, H', ⟨Nat.le_refl _⟩, ⟨by first | exact Kd.R_nil _ _ _ _ _ | exact Kd.N_nil _ _ _ _ _ | exact Kd.V_nil _ _ _ _ _ | exact Kd.Q_nil _ _ _ _ _ | exact Kd.S_nil _ _ _ _ _⟩, ⟨by (with_reducible repeat (first | refine blk_drewN ?_ _ | refine blk_drew ?_ | refine blk_alloc ?_ _)); exact BK553.out⟩, ⟨by repeat (first | (with_reducible first | exact HB.out | apply below_alloc | apply pw_below_drewN | apply below_drew1 | refine below_set ?_ GE553.out) | exact HB.out)⟩⟩
 case round =>
  clear H'
  try clear c2
  try clear p2
  obtain ⟨x3_1, x4_1, rfl, HA, HK1, HO_3, BK553, HB⟩ := hrel
  cases gk with
  | zero => exact absurd HA.out (by simp [cohousingref23_Ranking.l0])
  | succ k1 =>
   have H := HA.out
   clear HA
   simp only [cohousingref23_Ranking.l0] at H
   by_cases c3 : x4_1 < (l0_2.length : Int)
   ·rw [if_pos c3] at H
    have c3b0 : decide (x4_1 < (l0_2.length : Int)) = true := decide_eq_true c3
    clear c3
    by_cases c4 : 0 ≤ x4_1
    ·rw [if_pos c4] at H
     have c4b0 : decide (0 ≤ x4_1) = true := decide_eq_true c4
     clear c4
     by_cases c5 : x3_1.length < 17592186044416
     ·rw [if_pos c5] at H
      have LMc5 := Aside0.mk c5
      clear c5
      obtain ⟨y555, hy555⟩ : ∃ y_ : List Int, y_ = (x3_1 ++ [rd l0_2 x4_1]) := ⟨_, rfl⟩
      replace H : (if (rd l0_2 x4_1) = a0_1 then (some y555) else (cohousingref23_Ranking.l0 k1 y555 (wrap64 (x4_1 + 1)) a0_0 a0_1 l0_2)) = some r := by first | (rw [hy555]; with_reducible exact H) | (have H2_ := (Option.bind_some _ _).symm.trans H; rw [hy555]; with_reducible exact H2_) | (have H2_ := (Option.bind_some _ _).symm.trans H; with_reducible exact H2_) | with_reducible exact H | (rw [hy555]; exact H) | exact H
      have Ny555 := Aside0.mk hy555
      clear hy555
      by_cases c6 : (rd l0_2 x4_1) = a0_1
      ·rw [if_pos c6] at H
       have c6b0 : ((rd l0_2 x4_1) == a0_1) = true := beq_iff_eq.mpr c6
       have c6b1 : ((rd l0_2 x4_1) != a0_1) = false := bne_eq_false_iff_eq.mpr c6
       clear c6
       obtain rfl := Option.some.inj H
       have hcz7_0 : wr.cell? ⟨gb553, 0, none⟩ = some (.int .i64 a0_0) := (blk_cell BK553.out 0).trans rfl
       have hcz7_1 : wr.cell? ⟨gb553, 1, none⟩ = some (.int .i64 a0_1) := (blk_cell BK553.out 1).trans rfl
       have hcz7_2 : wr.cell? ⟨gb553, 2, none⟩ = some (.slice A0_2 l0_2.length c0_2) := (blk_cell BK553.out 2).trans rfl
       have hfz7_0 := blk_frozen BK553.out 0
       have hfz7_1 := blk_frozen BK553.out 1
       have hfz7_2 := blk_frozen BK553.out 2
       have p554 : 0 ≤ (x4_1 : Int) := od_
       have q554 : x4_1 < (l0_2.length : Int) := od_
       obtain ⟨ad554, e554, hx554_0⟩ := Kd.at_int HR0_2.out x4_1 p554 q554
       cases e554
       replace hx554_0 := (HB.out.cell (World.block_lt_of_cell? w _ hx554_0)).trans hx554_0
       replace p554 := eq_true p554
       replace q554 := eq_true q554
       go_wp2_with (first | ((with_reducible refine gate_builtin (b := .append) (xs := #[.tmp 12, .tmp 18]) rfl ?_); at_builtin; refine Kd.R_append (Kd.int .i64) (w0 := w) w.heap.size rfl (.tmp 12) (.tmp 18) 29 3 (.int .i64 0) 8 rfl Try.underlying29 info3 rfl (by decide) (by omega) u3 x3_1 (rd l0_2 x4_1) [.int .i64 (rd l0_2 x4_1)] (fun _ => True) (fun _ => False) rfl rfl ?aP (fun _ hk => hk.elim) ?aF ?aO ?aB ?aS ?aL ?_; (case aP => exact rfl); (case aB => exact (bs_ HB GE553.out)); (case aF => exact (fun _ _ => trivial)); (case aO => exact (rr_ HO_3)); (case aS => exact (below_size (bs_ HB GE553.out))); (case aL => have := LMc5.out; omega); intro v556 w8 ho hb hg hat; rw [← Ny555.out] at ho; have n0_ := Aside0.mk (blk_grown (g := gb553) (o := .cells #[.int .i64 a0_0, .int .i64 a0_1, .slice (some ad554) l0_2.length c0_2] 46 (0, 0)) (kk_ BK553) hg (Kd.R_ne HO_3.out BK553.out (by decide))); have n1_ := Aside0.mk (hb); have n2_ := Aside0.mk (ho); clear BK553; clear HB; clear HO_3; have BK553 := n0_; have HB := n1_; have HO557 := n2_; clear n0_ n1_ n2_; clear ho hb hg hat; have hcz9_0 : w8.cell? ⟨gb553, 0, none⟩ = some (.int .i64 a0_0) := (blk_cell BK553.out 0).trans rfl; have hcz9_1 : w8.cell? ⟨gb553, 1, none⟩ = some (.int .i64 a0_1) := (blk_cell BK553.out 1).trans rfl; have hcz9_2 : w8.cell? ⟨gb553, 2, none⟩ = some (.slice (some ad554) l0_2.length c0_2) := (blk_cell BK553.out 2).trans rfl; have hfz9_0 := blk_frozen BK553.out 0; have hfz9_1 := blk_frozen BK553.out 1; have hfz9_2 := blk_frozen BK553.out 2; have p558 : 0 ≤ (x4_1 : Int) := od_; have q558 : x4_1 < (l0_2.length : Int) := od_; obtain ⟨ad558, e558, hx558_0⟩ := Kd.at_int HR0_2.out x4_1 p558 q558; obtain rfl : ad554 = ad558 := (by injection e558); replace hx558_0 := (HB.out.cell (World.block_lt_of_cell? w _ hx558_0)).trans hx558_0; replace p558 := eq_true p558; replace q558 := eq_true q558))
       repeat (go_quiet (first | ((with_reducible refine gate_builtin (b := .append) (xs := #[.tmp 12, .tmp 18]) rfl ?_); at_builtin; refine Kd.R_append (Kd.int .i64) (w0 := w) w.heap.size rfl (.tmp 12) (.tmp 18) 29 3 (.int .i64 0) 8 rfl Try.underlying29 info3 rfl (by decide) (by omega) u3 x3_1 (rd l0_2 x4_1) [.int .i64 (rd l0_2 x4_1)] (fun _ => True) (fun _ => False) rfl rfl ?aP (fun _ hk => hk.elim) ?aF ?aO ?aB ?aS ?aL ?_; (case aP => exact rfl); (case aB => exact (bs_ HB GE553.out)); (case aF => exact (fun _ _ => trivial)); (case aO => exact (rr_ HO_3)); (case aS => exact (below_size (bs_ HB GE553.out))); (case aL => have := LMc5.out; omega); intro v556 w8 ho hb hg hat; rw [← Ny555.out] at ho; have n0_ := Aside0.mk (blk_grown (g := gb553) (o := .cells #[.int .i64 a0_0, .int .i64 a0_1, .slice (some ad554) l0_2.length c0_2] 46 (0, 0)) (kk_ BK553) hg (Kd.R_ne HO_3.out BK553.out (by decide))); have n1_ := Aside0.mk (hb); have n2_ := Aside0.mk (ho); clear BK553; clear HB; clear HO_3; have BK553 := n0_; have HB := n1_; have HO557 := n2_; clear n0_ n1_ n2_; clear ho hb hg hat; have hcz9_0 : w8.cell? ⟨gb553, 0, none⟩ = some (.int .i64 a0_0) := (blk_cell BK553.out 0).trans rfl; have hcz9_1 : w8.cell? ⟨gb553, 1, none⟩ = some (.int .i64 a0_1) := (blk_cell BK553.out 1).trans rfl; have hcz9_2 : w8.cell? ⟨gb553, 2, none⟩ = some (.slice (some ad554) l0_2.length c0_2) := (blk_cell BK553.out 2).trans rfl; have hfz9_0 := blk_frozen BK553.out 0; have hfz9_1 := blk_frozen BK553.out 1; have hfz9_2 := blk_frozen BK553.out 2; have p558 : 0 ≤ (x4_1 : Int) := od_; have q558 : x4_1 < (l0_2.length : Int) := od_; obtain ⟨ad558, e558, hx558_0⟩ := Kd.at_int HR0_2.out x4_1 p558 q558; obtain rfl : ad554 = ad558 := (by injection e558); replace hx558_0 := (HB.out.cell (World.block_lt_of_cell? w _ hx558_0)).trans hx558_0; replace p558 := eq_true p558; replace q558 := eq_true q558)); try go_wp2_with (first | ((with_reducible refine gate_builtin (b := .append) (xs := #[.tmp 12, .tmp 18]) rfl ?_); at_builtin; refine Kd.R_append (Kd.int .i64) (w0 := w) w.heap.size rfl (.tmp 12) (.tmp 18) 29 3 (.int .i64 0) 8 rfl Try.underlying29 info3 rfl (by decide) (by omega) u3 x3_1 (rd l0_2 x4_1) [.int .i64 (rd l0_2 x4_1)] (fun _ => True) (fun _ => False) rfl rfl ?aP (fun _ hk => hk.elim) ?aF ?aO ?aB ?aS ?aL ?_; (case aP => exact rfl); (case aB => exact (bs_ HB GE553.out)); (case aF => exact (fun _ _ => trivial)); (case aO => exact (rr_ HO_3)); (case aS => exact (below_size (bs_ HB GE553.out))); (case aL => have := LMc5.out; omega); intro v556 w8 ho hb hg hat; rw [← Ny555.out] at ho; have n0_ := Aside0.mk (blk_grown (g := gb553) (o := .cells #[.int .i64 a0_0, .int .i64 a0_1, .slice (some ad554) l0_2.length c0_2] 46 (0, 0)) (kk_ BK553) hg (Kd.R_ne HO_3.out BK553.out (by decide))); have n1_ := Aside0.mk (hb); have n2_ := Aside0.mk (ho); clear BK553; clear HB; clear HO_3; have BK553 := n0_; have HB := n1_; have HO557 := n2_; clear n0_ n1_ n2_; clear ho hb hg hat; have hcz9_0 : w8.cell? ⟨gb553, 0, none⟩ = some (.int .i64 a0_0) := (blk_cell BK553.out 0).trans rfl; have hcz9_1 : w8.cell? ⟨gb553, 1, none⟩ = some (.int .i64 a0_1) := (blk_cell BK553.out 1).trans rfl; have hcz9_2 : w8.cell? ⟨gb553, 2, none⟩ = some (.slice (some ad554) l0_2.length c0_2) := (blk_cell BK553.out 2).trans rfl; have hfz9_0 := blk_frozen BK553.out 0; have hfz9_1 := blk_frozen BK553.out 1; have hfz9_2 := blk_frozen BK553.out 2; have p558 : 0 ≤ (x4_1 : Int) := od_; have q558 : x4_1 < (l0_2.length : Int) := od_; obtain ⟨ad558, e558, hx558_0⟩ := Kd.at_int HR0_2.out x4_1 p558 q558; obtain rfl : ad554 = ad558 := (by injection e558); replace hx558_0 := (HB.out.cell (World.block_lt_of_cell? w _ hx558_0)).trans hx558_0; replace p558 := eq_true p558; replace q558 := eq_true q558)))
       go_ret
       exact ⟨_, ew_, by (with_reducible repeat (first | apply Kd.R_alloc | apply Kd.R_drewN | apply Kd.R_drew)); exact HO557.out, by repeat (first | (with_reducible first | exact HB.out | apply below_alloc | apply pw_below_drewN | apply below_drew1 | refine below_set ?_ GE553.out) | exact HB.out)⟩
      ·rw [if_neg c6] at H
       have c6b0 : ((rd l0_2 x4_1) == a0_1) = false := beq_eq_false_iff_ne.mpr c6
       have c6b1 : ((rd l0_2 x4_1) != a0_1) = true := bne_iff_ne.mpr c6
       have H' := Aside0.mk H
       clear H
       have hcz10_0 : wr.cell? ⟨gb553, 0, none⟩ = some (.int .i64 a0_0) := (blk_cell BK553.out 0).trans rfl
       have hcz10_1 : wr.cell? ⟨gb553, 1, none⟩ = some (.int .i64 a0_1) := (blk_cell BK553.out 1).trans rfl
       have hcz10_2 : wr.cell? ⟨gb553, 2, none⟩ = some (.slice A0_2 l0_2.length c0_2) := (blk_cell BK553.out 2).trans rfl
       have hfz10_0 := blk_frozen BK553.out 0
       have hfz10_1 := blk_frozen BK553.out 1
       have hfz10_2 := blk_frozen BK553.out 2
       have p554 : 0 ≤ (x4_1 : Int) := od_
       have q554 : x4_1 < (l0_2.length : Int) := od_
       obtain ⟨ad554, e554, hx554_0⟩ := Kd.at_int HR0_2.out x4_1 p554 q554
       cases e554
       replace hx554_0 := (HB.out.cell (World.block_lt_of_cell? w _ hx554_0)).trans hx554_0
       replace p554 := eq_true p554
       replace q554 := eq_true q554
       go_wp2_with (first | ((with_reducible refine gate_builtin (b := .append) (xs := #[.tmp 12, .tmp 18]) rfl ?_); at_builtin; refine Kd.R_append (Kd.int .i64) (w0 := w) w.heap.size rfl (.tmp 12) (.tmp 18) 29 3 (.int .i64 0) 8 rfl Try.underlying29 info3 rfl (by decide) (by omega) u3 x3_1 (rd l0_2 x4_1) [.int .i64 (rd l0_2 x4_1)] (fun _ => True) (fun _ => False) rfl rfl ?aP (fun _ hk => hk.elim) ?aF ?aO ?aB ?aS ?aL ?_; (case aP => exact rfl); (case aB => exact (bs_ HB GE553.out)); (case aF => exact (fun _ _ => trivial)); (case aO => exact (rr_ HO_3)); (case aS => exact (below_size (bs_ HB GE553.out))); (case aL => have := LMc5.out; omega); intro v556 w11 ho hb hg hat; rw [← Ny555.out] at ho; have n0_ := Aside0.mk (blk_grown (g := gb553) (o := .cells #[.int .i64 a0_0, .int .i64 a0_1, .slice (some ad554) l0_2.length c0_2] 46 (0, 0)) (kk_ BK553) hg (Kd.R_ne HO_3.out BK553.out (by decide))); have n1_ := Aside0.mk (hb); have n2_ := Aside0.mk (ho); clear BK553; clear HB; clear HO_3; have BK553 := n0_; have HB := n1_; have HO557 := n2_; clear n0_ n1_ n2_; clear ho hb hg hat; have hcz12_0 : w11.cell? ⟨gb553, 0, none⟩ = some (.int .i64 a0_0) := (blk_cell BK553.out 0).trans rfl; have hcz12_1 : w11.cell? ⟨gb553, 1, none⟩ = some (.int .i64 a0_1) := (blk_cell BK553.out 1).trans rfl; have hcz12_2 : w11.cell? ⟨gb553, 2, none⟩ = some (.slice (some ad554) l0_2.length c0_2) := (blk_cell BK553.out 2).trans rfl; have hfz12_0 := blk_frozen BK553.out 0; have hfz12_1 := blk_frozen BK553.out 1; have hfz12_2 := blk_frozen BK553.out 2; have p558 : 0 ≤ (x4_1 : Int) := od_; have q558 : x4_1 < (l0_2.length : Int) := od_; obtain ⟨ad558, e558, hx558_0⟩ := Kd.at_int HR0_2.out x4_1 p558 q558; obtain rfl : ad554 = ad558 := (by injection e558); replace hx558_0 := (HB.out.cell (World.block_lt_of_cell? w _ hx558_0)).trans hx558_0; replace p558 := eq_true p558; replace q558 := eq_true q558))
       repeat (go_quiet (first | ((with_reducible refine gate_builtin (b := .append) (xs := #[.tmp 12, .tmp 18]) rfl ?_); at_builtin; refine Kd.R_append (Kd.int .i64) (w0 := w) w.heap.size rfl (.tmp 12) (.tmp 18) 29 3 (.int .i64 0) 8 rfl Try.underlying29 info3 rfl (by decide) (by omega) u3 x3_1 (rd l0_2 x4_1) [.int .i64 (rd l0_2 x4_1)] (fun _ => True) (fun _ => False) rfl rfl ?aP (fun _ hk => hk.elim) ?aF ?aO ?aB ?aS ?aL ?_; (case aP => exact rfl); (case aB => exact (bs_ HB GE553.out)); (case aF => exact (fun _ _ => trivial)); (case aO => exact (rr_ HO_3)); (case aS => exact (below_size (bs_ HB GE553.out))); (case aL => have := LMc5.out; omega); intro v556 w11 ho hb hg hat; rw [← Ny555.out] at ho; have n0_ := Aside0.mk (blk_grown (g := gb553) (o := .cells #[.int .i64 a0_0, .int .i64 a0_1, .slice (some ad554) l0_2.length c0_2] 46 (0, 0)) (kk_ BK553) hg (Kd.R_ne HO_3.out BK553.out (by decide))); have n1_ := Aside0.mk (hb); have n2_ := Aside0.mk (ho); clear BK553; clear HB; clear HO_3; have BK553 := n0_; have HB := n1_; have HO557 := n2_; clear n0_ n1_ n2_; clear ho hb hg hat; have hcz12_0 : w11.cell? ⟨gb553, 0, none⟩ = some (.int .i64 a0_0) := (blk_cell BK553.out 0).trans rfl; have hcz12_1 : w11.cell? ⟨gb553, 1, none⟩ = some (.int .i64 a0_1) := (blk_cell BK553.out 1).trans rfl; have hcz12_2 : w11.cell? ⟨gb553, 2, none⟩ = some (.slice (some ad554) l0_2.length c0_2) := (blk_cell BK553.out 2).trans rfl; have hfz12_0 := blk_frozen BK553.out 0; have hfz12_1 := blk_frozen BK553.out 1; have hfz12_2 := blk_frozen BK553.out 2; have p558 : 0 ≤ (x4_1 : Int) := od_; have q558 : x4_1 < (l0_2.length : Int) := od_; obtain ⟨ad558, e558, hx558_0⟩ := Kd.at_int HR0_2.out x4_1 p558 q558; obtain rfl : ad554 = ad558 := (by injection e558); replace hx558_0 := (HB.out.cell (World.block_lt_of_cell? w _ hx558_0)).trans hx558_0; replace p558 := eq_true p558; replace q558 := eq_true q558)); try go_wp2_with (first | ((with_reducible refine gate_builtin (b := .append) (xs := #[.tmp 12, .tmp 18]) rfl ?_); at_builtin; refine Kd.R_append (Kd.int .i64) (w0 := w) w.heap.size rfl (.tmp 12) (.tmp 18) 29 3 (.int .i64 0) 8 rfl Try.underlying29 info3 rfl (by decide) (by omega) u3 x3_1 (rd l0_2 x4_1) [.int .i64 (rd l0_2 x4_1)] (fun _ => True) (fun _ => False) rfl rfl ?aP (fun _ hk => hk.elim) ?aF ?aO ?aB ?aS ?aL ?_; (case aP => exact rfl); (case aB => exact (bs_ HB GE553.out)); (case aF => exact (fun _ _ => trivial)); (case aO => exact (rr_ HO_3)); (case aS => exact (below_size (bs_ HB GE553.out))); (case aL => have := LMc5.out; omega); intro v556 w11 ho hb hg hat; rw [← Ny555.out] at ho; have n0_ := Aside0.mk (blk_grown (g := gb553) (o := .cells #[.int .i64 a0_0, .int .i64 a0_1, .slice (some ad554) l0_2.length c0_2] 46 (0, 0)) (kk_ BK553) hg (Kd.R_ne HO_3.out BK553.out (by decide))); have n1_ := Aside0.mk (hb); have n2_ := Aside0.mk (ho); clear BK553; clear HB; clear HO_3; have BK553 := n0_; have HB := n1_; have HO557 := n2_; clear n0_ n1_ n2_; clear ho hb hg hat; have hcz12_0 : w11.cell? ⟨gb553, 0, none⟩ = some (.int .i64 a0_0) := (blk_cell BK553.out 0).trans rfl; have hcz12_1 : w11.cell? ⟨gb553, 1, none⟩ = some (.int .i64 a0_1) := (blk_cell BK553.out 1).trans rfl; have hcz12_2 : w11.cell? ⟨gb553, 2, none⟩ = some (.slice (some ad554) l0_2.length c0_2) := (blk_cell BK553.out 2).trans rfl; have hfz12_0 := blk_frozen BK553.out 0; have hfz12_1 := blk_frozen BK553.out 1; have hfz12_2 := blk_frozen BK553.out 2; have p558 : 0 ≤ (x4_1 : Int) := od_; have q558 : x4_1 < (l0_2.length : Int) := od_; obtain ⟨ad558, e558, hx558_0⟩ := Kd.at_int HR0_2.out x4_1 p558 q558; obtain rfl : ad554 = ad558 := (by injection e558); replace hx558_0 := (HB.out.cell (World.block_lt_of_cell? w _ hx558_0)).trans hx558_0; replace p558 := eq_true p558; replace q558 := eq_true q558)))
       go_roundg k1
       case measure => have := HK1.out; omega
       case rel => exact ⟨(y555), (wrap64 (x4_1 + 1)), sd_, H', ⟨by have := HK1.out; omega⟩, ⟨by (with_reducible repeat (first | apply Kd.R_alloc | apply Kd.R_drewN | apply Kd.R_drew)); exact HO557.out⟩, ⟨by (with_reducible repeat (first | refine blk_drewN ?_ _ | refine blk_drew ?_ | refine blk_alloc ?_ _)); exact BK553.out⟩, ⟨by repeat (first | (with_reducible first | exact HB.out | apply below_alloc | apply pw_below_drewN | apply below_drew1 | refine below_set ?_ GE553.out) | exact HB.out)⟩⟩
     ·rw [if_neg c5] at H
      exact absurd H (by simp)
    ·rw [if_neg c4] at H
     exact absurd H (by simp)
   ·rw [if_neg c3] at H
    have c3b0 : decide (x4_1 < (l0_2.length : Int)) = false := decide_eq_false c3
    clear c3
    by_cases c13 : x3_1.length < 17592186044416
    ·rw [if_pos c13] at H
     have LMc13 := Aside0.mk c13
     clear c13
     obtain ⟨y559, hy559⟩ : ∃ y_ : List Int, y_ = (x3_1 ++ [a0_1]) := ⟨_, rfl⟩
     replace H : (some y559) = some r := by first | (rw [hy559]; with_reducible exact H) | (have H2_ := (Option.bind_some _ _).symm.trans H; rw [hy559]; with_reducible exact H2_) | (have H2_ := (Option.bind_some _ _).symm.trans H; with_reducible exact H2_) | with_reducible exact H | (rw [hy559]; exact H) | exact H
     have Ny559 := Aside0.mk hy559
     clear hy559
     obtain rfl := Option.some.inj H
     have hcz14_0 : wr.cell? ⟨gb553, 0, none⟩ = some (.int .i64 a0_0) := (blk_cell BK553.out 0).trans rfl
     have hcz14_1 : wr.cell? ⟨gb553, 1, none⟩ = some (.int .i64 a0_1) := (blk_cell BK553.out 1).trans rfl
     have hcz14_2 : wr.cell? ⟨gb553, 2, none⟩ = some (.slice A0_2 l0_2.length c0_2) := (blk_cell BK553.out 2).trans rfl
     have hfz14_0 := blk_frozen BK553.out 0
     have hfz14_1 := blk_frozen BK553.out 1
     have hfz14_2 := blk_frozen BK553.out 2
     go_wp2_with (first | ((with_reducible refine gate_builtin (b := .append) (xs := #[.tmp 29, .tmp 32]) rfl ?_); at_builtin; refine Kd.R_append (Kd.int .i64) (w0 := w) w.heap.size rfl (.tmp 29) (.tmp 32) 29 3 (.int .i64 0) 8 rfl Try.underlying29 info3 rfl (by decide) (by omega) u3 x3_1 a0_1 [.int .i64 a0_1] (fun _ => True) (fun _ => False) rfl rfl ?aP (fun _ hk => hk.elim) ?aF ?aO ?aB ?aS ?aL ?_; (case aP => exact rfl); (case aB => exact (bs_ HB GE553.out)); (case aF => exact (fun _ _ => trivial)); (case aO => exact (rr_ HO_3)); (case aS => exact (below_size (bs_ HB GE553.out))); (case aL => have := LMc13.out; omega); intro v560 w15 ho hb hg hat; rw [← Ny559.out] at ho; have n0_ := Aside0.mk (blk_grown (g := gb553) (o := .cells #[.int .i64 a0_0, .int .i64 a0_1, .slice A0_2 l0_2.length c0_2] 46 (0, 0)) (kk_ BK553) hg (Kd.R_ne HO_3.out BK553.out (by decide))); have n1_ := Aside0.mk (hb); have n2_ := Aside0.mk (ho); clear BK553; clear HB; clear HO_3; have BK553 := n0_; have HB := n1_; have HO561 := n2_; clear n0_ n1_ n2_; clear ho hb hg hat))
     repeat (go_quiet (first | ((with_reducible refine gate_builtin (b := .append) (xs := #[.tmp 29, .tmp 32]) rfl ?_); at_builtin; refine Kd.R_append (Kd.int .i64) (w0 := w) w.heap.size rfl (.tmp 29) (.tmp 32) 29 3 (.int .i64 0) 8 rfl Try.underlying29 info3 rfl (by decide) (by omega) u3 x3_1 a0_1 [.int .i64 a0_1] (fun _ => True) (fun _ => False) rfl rfl ?aP (fun _ hk => hk.elim) ?aF ?aO ?aB ?aS ?aL ?_; (case aP => exact rfl); (case aB => exact (bs_ HB GE553.out)); (case aF => exact (fun _ _ => trivial)); (case aO => exact (rr_ HO_3)); (case aS => exact (below_size (bs_ HB GE553.out))); (case aL => have := LMc13.out; omega); intro v560 w15 ho hb hg hat; rw [← Ny559.out] at ho; have n0_ := Aside0.mk (blk_grown (g := gb553) (o := .cells #[.int .i64 a0_0, .int .i64 a0_1, .slice A0_2 l0_2.length c0_2] 46 (0, 0)) (kk_ BK553) hg (Kd.R_ne HO_3.out BK553.out (by decide))); have n1_ := Aside0.mk (hb); have n2_ := Aside0.mk (ho); clear BK553; clear HB; clear HO_3; have BK553 := n0_; have HB := n1_; have HO561 := n2_; clear n0_ n1_ n2_; clear ho hb hg hat)); try go_wp2_with (first | ((with_reducible refine gate_builtin (b := .append) (xs := #[.tmp 29, .tmp 32]) rfl ?_); at_builtin; refine Kd.R_append (Kd.int .i64) (w0 := w) w.heap.size rfl (.tmp 29) (.tmp 32) 29 3 (.int .i64 0) 8 rfl Try.underlying29 info3 rfl (by decide) (by omega) u3 x3_1 a0_1 [.int .i64 a0_1] (fun _ => True) (fun _ => False) rfl rfl ?aP (fun _ hk => hk.elim) ?aF ?aO ?aB ?aS ?aL ?_; (case aP => exact rfl); (case aB => exact (bs_ HB GE553.out)); (case aF => exact (fun _ _ => trivial)); (case aO => exact (rr_ HO_3)); (case aS => exact (below_size (bs_ HB GE553.out))); (case aL => have := LMc13.out; omega); intro v560 w15 ho hb hg hat; rw [← Ny559.out] at ho; have n0_ := Aside0.mk (blk_grown (g := gb553) (o := .cells #[.int .i64 a0_0, .int .i64 a0_1, .slice A0_2 l0_2.length c0_2] 46 (0, 0)) (kk_ BK553) hg (Kd.R_ne HO_3.out BK553.out (by decide))); have n1_ := Aside0.mk (hb); have n2_ := Aside0.mk (ho); clear BK553; clear HB; clear HO_3; have BK553 := n0_; have HB := n1_; have HO561 := n2_; clear n0_ n1_ n2_; clear ho hb hg hat)))
     go_ret
     exact ⟨_, ew_, by (with_reducible repeat (first | apply Kd.R_alloc | apply Kd.R_drewN | apply Kd.R_drew)); exact HO561.out, by repeat (first | (with_reducible first | exact HB.out | apply below_alloc | apply pw_below_drewN | apply below_drew1 | refine below_set ?_ GE553.out) | exact HB.out)⟩
    ·rw [if_neg c13] at H
     exact absurd H (by simp)
end
section
open Go.Proofs.YtocbiggglnpeoaaH
def cutL (own : Int) : List Int → List Int
 | [] => [own]
 | w :: t => if w = own then [w] else w :: cutL own t
theorem cutL_at (own : Int) : ∀ (l : List Int) (k : Nat), k < l.length → (∀ j : Nat, j < k → l[j]? ≠ some own) → (cutL own l)[k]? = l[k]? ∧ (l[k]? = some own → (cutL own l).length = k + 1)
 | [], k, h, _ => absurd h (Nat.not_lt_zero _)
 | w :: t, 0, _, _ => by
  unfold cutL
  by_cases e : w = own
  ·rw [if_pos e]; simp
  ·rw [if_neg e]; exact ⟨rfl, fun h => absurd (by simpa using h) e⟩
 | w :: t, k + 1, h, hn => by
  have hw : w ≠ own := fun e => hn 0 (by omega) (by simp [e])
  unfold cutL
  rw [if_neg hw]
  have := cutL_at own t k (by simpa using h) (fun j hj => by have := hn (j + 1) (by omega); simpa using this)
  simpa using this
theorem cutL_end (own : Int) : ∀ (l : List Int), (∀ j : Nat, l[j]? ≠ some own) → cutL own l = l ++ [own]
 | [], _ => rfl
 | w :: t, hn => by
  have hw : w ≠ own := fun e => hn 0 (by simp [e])
  unfold cutL
  rw [if_neg hw, cutL_end own t (fun j => by have := hn (j + 1); simpa using this)]
  rfl
def rankE (own : Int) (l : List Int) : List (Nat × Int) := (cutL own l).zipIdx.map (fun p => (p.2, p.1))
theorem rankE_len (own : Int) (l : List Int) : (rankE own l).length = (cutL own l).length := by simp [rankE]
theorem rankE_at {own : Int} {l : List Int} {k : Nat} {x : Int} (h : (cutL own l)[k]? = some x) : (rankE own l)[k]? = some (k, x) := by simp [rankE, h]
theorem take_next {α : Type} {E : List α} {k : Nat} {x : α} (h : E[k]? = some x) : E.take k ++ [x] = E.take (k + 1) := by rw [List.take_add_one, h]; rfl
def encR (x : Nat × Int) : Array Value := #[.int .i64 (x.1 : Int), .int .i64 x.2]
theorem ranking_calls (a0 a1 : Int) (A2 : Option Addr) (n c : Nat) (w : World) :
  Calls Try.prog 46 #[.agg #[.int .i64 a0, .int .i64 a1, .slice A2 n c]] w fun e w' => e = .returned (.func (.func 49) #[] #[.pointer (some ⟨w.heap.size, 0, none⟩)]) ∧ w' = w.alloc (.cells #[.int .i64 a0, .int .i64 a1, .slice A2 n c] 46) := by
 have hu46 := Try.underlying46
 go_enter Try.func46, Try.ntmps46
 go_wp2
 go_ret
 exact ⟨rfl, rfl⟩
attribute [local go_sem] Oper.semAt_some
set_option maxHeartbeats 4000000 in
theorem rank1_in (n : Nat) (hn : 1 ≤ n) (lr Bn n0 : Nat) (id own : Int) (A0 : Option Addr) (c0 : Nat) (l : List Int) (hsz : l.length ≤ 5864062014805) (J Jx : List (Nat × Int) → World → Prop)
  (hY : ∀ pre x W, J pre W → pre.length < l.length + 1 → YieldAt Fence.wide (n - 1) Try.prog lr (encR x) W fun e W' =>
   (e = .returned (.bool true) ∧ J (pre ++ [x]) W' ∧ KeepIt n0 Bn W W') ∨ (e = .returned (.bool false) ∧ Jx (pre ++ [x]) W'))
  (W : World) (hBn : W.heap[Bn]? = some (.cells #[.int .i64 id, .int .i64 own, .slice A0 l.length c0] 46 (0, 0))) (hC : ∀ W', Below n0 W W' → Kd.C (Kd.int .i64) W' A0 l.length l) (h0 : J [] W) :
  CallsIn Fence.wide n Try.prog 49 #[.func (.yield lr) #[] #[], .pointer (some ⟨Bn, 0, none⟩)] W fun e W' => (∃ v, e = .returned v) ∧
   ((∃ xs : List (Nat × Int), xs = rankE own l ∧ J xs W') ∨ (∃ pre, (∃ k, pre = (rankE own l).take k) ∧ Jx pre W')) := by
 refine callsIn_of_wp Try.func49 rfl trivial ?_ rfl
 simp only [Try.ntmps49, List.size_toArray, List.length_cons, List.length_nil, Nat.reduceAdd, Nat.reduceSub, Array.replicate_succ, Array.replicate_zero, List.push_toArray, List.append_toArray, List.nil_append, List.cons_append]
 have hu46 := Try.underlying46
 have hc2 : W.cell? ⟨Bn, 2, none⟩ = some (.slice A0 l.length c0) := (blk_cell hBn 2).trans rfl
 have HSZ := Aside0.mk hsz
 have HC := Aside0.mk hC
 have HY := Aside0.mk hY
 have HBN := Aside0.mk hBn
 have H0 := Aside0.mk h0
 clear hsz hC hY hBn h0
 gi_wp2
 gi_loopw [8] (fun i wr => ∃ (k : Nat), k ≤ l.length ∧ i = .int .i64 (k : Int) ∧ Aside0 (∀ j : Nat, j < k → l[j]? ≠ some own) ∧ Aside0 (J ((rankE own l).take k) wr) ∧ Aside0 (KeepIt n0 Bn W wr))
  (fun i _ => ((l.length : Int) - intOf i).toNat)
 case atStart => exact ⟨0, Nat.zero_le _, rfl, ⟨fun j hj => absurd hj (Nat.not_lt_zero _)⟩, H0, ⟨⟨Below.refl _ _, rfl⟩⟩⟩
 case round =>
  clear hc2 H0
  obtain ⟨k, hk, rfl, HP, HJ, HK⟩ := hrel
  have hb0 := HK.out.2.trans HBN.out
  have hc1 : wr.cell? ⟨Bn, 1, none⟩ = some (.int .i64 own) := (blk_cell hb0 1).trans rfl
  have hc2 : wr.cell? ⟨Bn, 2, none⟩ = some (.slice A0 l.length c0) := (blk_cell hb0 2).trans rfl
  clear hb0
  by_cases hlt : k < l.length
  ·obtain ⟨i, hi⟩ : ∃ i : Int, i = (k : Int) := ⟨_, rfl⟩
   rw [← hi]
   have hi0 : 0 ≤ i := by omega
   have hi1 : i < l.length := by omega
   obtain ⟨x, hx⟩ : ∃ x, x = rd l i := ⟨_, rfl⟩
   have hlk : l[k]? = some x := by rw [hx, hi]; simp [rd, List.getD_eq_getElem?_getD, hlt]
   obtain ⟨t1, t2⟩ := cutL_at own l k hlt HP.out
   rw [hlk] at t1
   have HE := Aside0.mk (take_next (rankE_at t1))
   have HPL := Aside0.mk (show ((rankE own l).take k).length < l.length + 1 by rw [List.length_take]; omega)
   obtain ⟨fn, tmps, assign, body, hy, hR⟩ := HY.out _ (k, x) wr HJ.out HPL.out
   simp only [encR, ← hi] at hy
   obtain ⟨ad, e, hx0⟩ := Kd.at_int (HC.out wr HK.out.1) i hi0 hi1
   rw [← hx] at hx0
   have HI := Aside0.mk hi
   have HR := Aside0.mk hR
   have HLK := Aside0.mk hlk
   have HEND := Aside0.mk (fun e : x = own => t2 (by rw [hlk, e]))
   have HL := Aside0.mk (And.intro hi0 (And.intro hi1 hlt))
   have d1 : decide (i < (l.length : Int)) = true := decide_eq_true hi1
   have d2 : (0 ≤ i) = True := eq_true hi0
   have d3 : (i < l.length) = True := eq_true hi1
   have hb1 : i + 1 ≤ 9223372036854775807 := by have := HSZ.out; omega
   have hb2 : -9223372036854775808 ≤ i + 1 := by omega
   clear hi hR hi0 hi1 hlt hk hx hlk t1 t2
   subst e
   gi_wp2
   refine HR.out.mono ?_
   rintro e W3 (⟨rfl, hJ3, hk3⟩ | ⟨rfl, hJx3⟩)
   ·rw [HE.out] at hJ3
    have HJ3 := Aside0.mk hJ3
    have HK3 := Aside0.mk (keepIt_t HK.out hk3)
    have hb3 := HK3.out.2.trans HBN.out
    replace hc1 : W3.cell? ⟨Bn, 1, none⟩ = some (.int .i64 own) := (blk_cell hb3 1).trans rfl
    clear hJ3 hk3 hc2 hb3 hx0
    by_cases ho : x = own
    ·have o1 : (x == own) = true := beq_iff_eq.2 ho
     have HO := Aside0.mk ho
     clear ho
     gi_wp2
     refine bodyPost_ret (results_none rfl _ _ _) rfl ?_
     refine ⟨⟨_, rfl⟩, .inl ⟨_, ?_, HJ3.out⟩⟩
     exact List.take_of_length_le (by rw [rankE_len, HEND.out HO.out]; exact Nat.le_refl _)
    ·have o1 : (x == own) = false := beq_eq_false_iff_ne.2 ho
     have HO := Aside0.mk ho
     clear ho
     gi_wp2
     go_roundw
     case rel =>
      refine ⟨k + 1, ?_, ?_, ⟨fun j hj => ?_⟩, HJ3, HK3⟩
      ·have := HL.out; omega
      ·have := HI.out; first | (rw [show i + 1 = ((k + 1 : Nat) : Int) from by omega]; done) | (simp; omega)
      ·by_cases ej : j = k
       ·subst ej
        rw [HLK.out]
        intro h
        exact HO.out (Option.some.inj h)
       ·exact HP.out j (by omega)
     case measure => have := HL.out; have := HI.out; simp [intOf]; omega
   ·rw [HE.out] at hJx3
    gi_wp2
    refine bodyPost_ret (results_none rfl _ _ _) rfl ?_
    exact ⟨⟨_, rfl⟩, .inr ⟨_, ⟨_, rfl⟩, hJx3⟩⟩
  ·have hkl : k = l.length := by omega
   have hcl : cutL own l = l ++ [own] := cutL_end own l (fun j => by
    by_cases hj : j < k
    ·exact HP.out j hj
    ·rw [List.getElem?_eq_none (by omega)]; simp)
   have t1 : (cutL own l)[k]? = some own := by rw [hcl, hkl]; simp
   have HE := Aside0.mk (take_next (rankE_at t1))
   have HALL := Aside0.mk (show (rankE own l).take (k + 1) = rankE own l from List.take_of_length_le (by rw [rankE_len, hcl, hkl]; simp))
   have HPL := Aside0.mk (show ((rankE own l).take k).length < l.length + 1 by rw [List.length_take]; omega)
   obtain ⟨i, hi⟩ : ∃ i : Int, i = (k : Int) := ⟨_, rfl⟩
   obtain ⟨fn, tmps, assign, body, hy, hR⟩ := HY.out _ (k, own) wr HJ.out HPL.out
   have hil : i = (l.length : Int) := by rw [hi, hkl]
   simp only [encR, ← hi] at hy
   rw [← hi]
   rw [hil] at hy ⊢
   have HR := Aside0.mk hR
   have d1 : decide ((l.length : Int) < (l.length : Int)) = false := decide_eq_false (Int.lt_irrefl _)
   have d1' : decide (l.length < l.length) = false := decide_eq_false (Nat.lt_irrefl _)
   clear hlt hk hkl hcl t1 hR hi hil
   gi_wp2
   refine HR.out.mono ?_
   rintro e W3 (⟨rfl, hJ3, hk3⟩ | ⟨rfl, hJx3⟩)
   ·rw [HE.out, HALL.out] at hJ3
    gi_wp2
    go_end0
    exact ⟨⟨_, rfl⟩, .inl ⟨_, rfl, hJ3⟩⟩
   ·rw [HE.out] at hJx3
    gi_wp2
    go_end0
    exact ⟨⟨_, rfl⟩, .inr ⟨_, ⟨_, rfl⟩, hJx3⟩⟩
theorem rank_stops (n : Nat) (hn : 1 ≤ n) (Bn n0 : Nat) (id own : Int) (A0 : Option Addr) (c0 : Nat) (l : List Int) (hsz : l.length ≤ 5864062014805) (w : World) (hBn : w.heap[Bn]? = some (.cells #[.int .i64 id, .int .i64 own, .slice A0 l.length c0] 46 (0, 0))) (hC : ∀ W', Below n0 w W' → Kd.C (Kd.int .i64) W' A0 l.length l) (hn0 : n0 ≤ w.heap.size) :
  SeqStopsK Fence.wide n Try.prog 49 #[.pointer (some ⟨Bn, 0, none⟩)] encR (KeepIt n0 Bn) (fun xs => xs = rankE own l) (fun pre => ∃ k, pre = (rankE own l).take k) (l.length + 1) w := by
 intro lr J Jx W hW _ _ hY h0
 exact rank1_in n hn lr Bn n0 id own A0 c0 l hsz J Jx hY W (blk_below hBn hW) (fun W' h => hC W' ((hW.mono hn0).trans h)) h0
def rankR (own : Int) (l : List Int) (flat : Int) : Int × Int := match (rankE own l).find? (fun x => x.2 == flat) with
 | some x => ((x.1 : Int), 0)
 | none => (0, 23)
theorem rankR_none {own flat : Int} {l : List Int} (h : ∀ x ∈ rankE own l, x.2 ≠ flat) : rankR own l flat = (0, 23) := by
 unfold rankR
 rw [List.find?_eq_none.2 (fun x hx => by simpa using h x hx)]
theorem rankR_some {own flat : Int} {l : List Int} {pre : List (Nat × Int)} {x : Nat × Int} {k : Nat} (hp : pre ++ [x] = (rankE own l).take k) (hn : ∀ y ∈ pre, y.2 ≠ flat) (hx : x.2 = flat) : rankR own l flat = ((x.1 : Int), 0) := by
 have e : rankE own l = pre ++ [x] ++ (rankE own l).drop k := by rw [hp, List.take_append_drop]
 unfold rankR
 rw [e, List.append_assoc, List.find?_append, List.find?_eq_none.2 (fun y hy => by simpa using hn y hy)]
 simp [hx]
theorem postM_done {F : Fence} {n : Nat} {P : Program} {fn : Func} {R : Ending → World → Prop} {T : Array Value} {v : Value} {D : Nat} {w : World} (hD : w.heap[D]? = some (.deferred (some []))) (h : (results fn T).run P (w.putObj D (.deferred none)) = .ok v (w.putObj D (.deferred none))) (hR : R (.returned v) (w.putObj D (.deferred none))) :
  bodyPostM F n P fn R .ret { tmps := T, defers := [{ target := .collected D, args := #[] }] } w := ⟨by simp, .inl ⟨_, _, rfl, run_takeDeferred hD, v, h, hR⟩⟩
theorem results_2s {P : Program} {fn : Func} {p q : Tmp} {t t' : TypeId} (h : fn.results = #[.cell p t, .cell q t']) (T : Array Value) (w : World) (g g' : Nat) (v v' : Value) (hp : T[p]?.getD undef = .pointer (some ⟨g, 0, none⟩)) (hq : T[q]?.getD undef = .pointer (some ⟨g', 0, none⟩))
  (hu : ∀ w, (isAgg t).run P w = .ok false w) (hu' : ∀ w, (isAgg t').run P w = .ok false w)
  (hc : w.cell? ⟨g, 0, none⟩ = some v) (hc' : w.cell? ⟨g', 0, none⟩ = some v') : (results fn T).run P w = .ok (.tuple #[v, v']) w := by
 simp [results, h, hp, hq, asAddr, loadVar, hu, hu', hc, hc']
theorem cells_put {w : World} {g D : Nat} {o o' : Obj} (h : w.heap[g]? = some o) (hD : w.heap[D]? = some o') (hne : o.isCells = true) (hn : o'.isCells = false) (x : Obj) : (w.putObj D x).heap[g]? = some o :=
 (World.putObj_heap_other (fun e => by rw [e, hD] at h; cases h; rw [hn] at hne; cases hne)).trans h
theorem rank_calls (w : World) (id own flat : Int) (A2 : Option Addr) (c2 : Nat) (l : List Int) (hr : Kd.C (Kd.int .i64) w A2 l.length l) (hc : l.length ≤ c2) (hsz : l.length ≤ 5864062014805) :
  Calls Try.prog 28 #[.agg #[.int .i64 id, .int .i64 own, .slice A2 l.length c2], .int .i64 flat] w fun e w' => e = .returned (.tuple #[.int .i64 (rankR own l flat).1, .int .i64 (rankR own l flat).2]) ∧ Below w.heap.size w w' := by
 refine (callsIn_wide (n := 5)).1 ?_
 refine callsIn_of_wp_marks Try.func28 rfl trivial ?_ rfl
 simp only [Try.ntmps28, List.size_toArray, List.length_cons, List.length_nil, Nat.reduceAdd, Nat.reduceSub, Array.replicate_succ, Array.replicate_zero, List.push_toArray, List.append_toArray, List.nil_append, List.cons_append]
 have hu46 := Try.underlying46
 obtain ⟨g2, hg2⟩ : ∃ g2, w.heap.size = g2 := ⟨_, rfl⟩
 have HR := Aside0.mk hr
 have HSZ := Aside0.mk hsz
 clear hr hsz
 gi_wp2_with (refine ⟨trivial, ?_⟩; gi_at_call 46; refine (callsIn_wide.2 (ranking_calls _ _ _ _ _ _)).mono ?_; rintro e w' ⟨rfl, rfl⟩)
 obtain ⟨w1, h1⟩ : ∃ w1, w1 = w.alloc (Obj.cells #[Value.int .i64 id, Value.int .i64 own, Value.slice A2 l.length c2] 46) := ⟨_, rfl⟩
 obtain ⟨w2, h2⟩ : ∃ w2, w2 = w1.alloc (Obj.cells #[Value.int .i64 flat] 3) := ⟨_, rfl⟩
 obtain ⟨w3, h3⟩ : ∃ w3, w3 = w2.alloc (Obj.cells #[Value.int .i64 0] 3) := ⟨_, rfl⟩
 obtain ⟨w4, h4⟩ : ∃ w4, w4 = w3.alloc (Obj.cells #[Value.int .i64 0] 33) := ⟨_, rfl⟩
 obtain ⟨W3, h5⟩ : ∃ W3, W3 = w4.alloc (Obj.cells #[Value.int .i64 id, Value.int .i64 own, Value.slice A2 l.length c2] 46) := ⟨_, rfl⟩
 rw [← h1, ← h2, ← h3, ← h4, ← h5]
 have s1 : w1.heap.size = g2 + 1 := by rw [h1, World.size_alloc, hg2]
 have s2 : w2.heap.size = g2 + 1 + 1 := by rw [h2, World.size_alloc, s1]
 have s3 : w3.heap.size = g2 + 1 + 1 + 1 := by rw [h3, World.size_alloc, s2]
 have s4 : w4.heap.size = g2 + 1 + 1 + 1 + 1 := by rw [h4, World.size_alloc, s3]
 have s5 : W3.heap.size = g2 + 1 + 1 + 1 + 1 + 1 := by rw [h5, World.size_alloc, s4]
 have b1 : W3.heap[g2 + 1]? = some (.cells #[.int .i64 flat] 3 (0, 0)) := by rw [h5, h4, h3, h2, ← s1]; exact blk_alloc (blk_alloc (blk_alloc (blk_new w1 _) _) _) _
 have b2 : W3.heap[g2 + 1 + 1]? = some (.cells #[.int .i64 0] 3 (0, 0)) := by rw [h5, h4, h3, ← s2]; exact blk_alloc (blk_alloc (blk_new w2 _) _) _
 have b3 : W3.heap[g2 + 1 + 1 + 1]? = some (.cells #[.int .i64 0] 33 (0, 0)) := by rw [h5, h4, ← s3]; exact blk_alloc (blk_new w3 _) _
 have b4 : W3.heap[g2 + 1 + 1 + 1 + 1]? = some (.cells #[.int .i64 id, .int .i64 own, .slice A2 l.length c2] 46 (0, 0)) := by rw [h5, ← s4]; exact blk_new w4 _
 have hB3 : Below w.heap.size w W3 := by rw [h5, h4, h3, h2, h1]; exact below_alloc (below_alloc (below_alloc (below_alloc (below_alloc (Below.refl _ _) _) _) _) _) _
 have hle : w.heap.size ≤ W3.heap.size := by omega
 clear h1 h2 h3 h4 h5 s1 s2 s3 s4
 refine wpIn_rangeFunc_ownG rfl (by omega) (gf := 49) (lb := #[.pointer (some ⟨g2 + 1 + 1 + 1 + 1, 0, none⟩)]) rfl trivial (enters_fn Try.func49 (by kernel_rfl) rfl)
  (rank_stops 4 (by omega) (g2 + 1 + 1 + 1 + 1) w.heap.size id own A2 c2 l HSZ.out W3 b4 (fun W' h => Kd.C_below HR.out (hB3.trans h)) hle) keepIt_t (keepIt_b hle (by omega)) (Below.refl _ _) (fun _ => rfl)
  (fun pre W => (W.heap[g2 + 1]? = some (.cells #[.int .i64 flat] 3 (0, 0)) ∧ W.heap[g2 + 1 + 1]? = some (.cells #[.int .i64 0] 3 (0, 0)) ∧ W.heap[g2 + 1 + 1 + 1]? = some (.cells #[.int .i64 0] 33 (0, 0)) ∧ W.heap[g2 + 1 + 1 + 1 + 1]? = some (.cells #[.int .i64 id, .int .i64 own, .slice A2 l.length c2] 46 (0, 0))) ∧ (∀ y ∈ pre, y.2 ≠ flat) ∧ Below w.heap.size w W)
  (fun c pre W => c = .ret ∧ ∃ pre' x, pre = pre' ++ [x] ∧ (∀ y ∈ pre', y.2 ≠ flat) ∧ x.2 = flat ∧ W.heap[g2 + 1 + 1]? = some (.cells #[.int .i64 (x.1 : Int)] 3 (0, 0)) ∧ W.heap[g2 + 1 + 1 + 1]? = some (.cells #[.int .i64 0] 33 (0, 0)) ∧ Below w.heap.size w W)
  (fun s A B row hs hg hr => by
   have hr' : ∀ r, row = some r → ∃ o : Obj, A.heap[r]? = some o ∧ o.isCells = false := fun r e => (hr r e).2
   exact ⟨⟨blk_objs hs.1.1 hg hr', blk_objs hs.1.2.1 hg hr', blk_objs hs.1.2.2.1 hg hr', blk_objs hs.1.2.2.2 hg hr'⟩, hs.2.1, grown_below hs.2.2 hg (fun r e => by have := (hr r e).1; omega)⟩)
  (fun c s A B row hs hg hr => by
   have hr' : ∀ r, row = some r → ∃ o : Obj, A.heap[r]? = some o ∧ o.isCells = false := fun r e => (hr r e).2
   obtain ⟨hc, pre', x, e, hn, hx, q1, q2, hb⟩ := hs
   exact ⟨hc, pre', x, e, hn, hx, blk_objs q1 hg hr', blk_objs q2 hg hr', grown_below hb hg (fun r e => by have := (hr r e).1; omega)⟩)
  ⟨⟨b1, b2, b3, b4⟩, (fun y hy => by cases hy), hB3⟩
  (fun x => { tmps := #[.agg #[.int .i64 id, .int .i64 own, .slice A2 l.length c2], .int .i64 flat, .pointer (some ⟨g2, 0, none⟩), .pointer (some ⟨g2 + 1, 0, none⟩), .pointer (some ⟨g2 + 1 + 1, 0, none⟩), .pointer (some ⟨g2 + 1 + 1 + 1, 0, none⟩), .int .i64 (x.1 : Int), .int .i64 x.2,
   .agg #[.int .i64 id, .int .i64 own, .slice A2 l.length c2], .func (.func 49) #[] #[.pointer (some ⟨g2 + 1 + 1 + 1 + 1, 0, none⟩)], .int .i64 (x.1 : Int), .int .i64 x.2, undef, undef, undef, undef], defers := [] }) ?assign ?body ?done ?stop
 case assign =>
  intro lr x W K hK
  simp only [encR]
  gi_wp2
  exact hK
 case done =>
  rintro D ys W hD hys ⟨⟨q1, q2, q3, q4⟩, hn, hBW⟩ hDD
  have hE := rankR_none (own := own) (flat := flat) (l := l) (by rw [← hys]; exact hn)
  have hf2 := blk_frozen q2 0
  have hf3 := blk_frozen q3 0
  have hc2 : W.cell? ⟨g2 + 1 + 1, 0, none⟩ = some (.int .i64 0) := (blk_cell q2 0).trans rfl
  have hc3 : W.cell? ⟨g2 + 1 + 1 + 1, 0, none⟩ = some (.int .i64 0) := (blk_cell q3 0).trans rfl
  gi_wp2
  obtain ⟨W1, hW1⟩ : ∃ W1, W1 = (W.setCell ⟨g2 + 1 + 1, 0, none⟩ (.int .i64 0)).setCell ⟨g2 + 1 + 1 + 1, 0, none⟩ (.int .i64 23) := ⟨_, rfl⟩
  rw [← hW1]
  have r2 : W1.heap[g2 + 1 + 1]? = some (.cells #[.int .i64 0] 3 (0, 0)) := by rw [hW1]; exact (Below.heap_setCell _ _ _ _ (show g2 + 1 + 1 ≠ g2 + 1 + 1 + 1 by omega)).trans (blk_put q2 0 _ rfl)
  have r3 : W1.heap[g2 + 1 + 1 + 1]? = some (.cells #[.int .i64 23] 33 (0, 0)) := by rw [hW1]; exact blk_put ((Below.heap_setCell _ _ _ _ (show g2 + 1 + 1 + 1 ≠ g2 + 1 + 1 by omega)).trans q3) 0 _ rfl
  have rD : W1.heap[D]? = some (.deferred (some [])) := by rw [hW1]; exact (Below.heap_setCell _ _ _ _ (show D ≠ g2 + 1 + 1 + 1 by omega)).trans ((Below.heap_setCell _ _ _ _ (show D ≠ g2 + 1 + 1 by omega)).trans hDD)
  have rB : Below w.heap.size w W1 := by rw [hW1]; exact below_set (below_set hBW (show w.heap.size ≤ g2 + 1 + 1 by omega)) (show w.heap.size ≤ g2 + 1 + 1 + 1 by omega)
  show bodyPostM _ _ _ _ _ .ret _ _
  refine postM_done (D := D) rD (results_2s rfl _ _ (g2 + 1 + 1) (g2 + 1 + 1 + 1) (.int .i64 0) (.int .i64 23) rfl rfl (fun w => by have hu := Try.underlying3; simp [isAgg, run_underlying hu]) (fun w => by have hu := Try.underlying33; simp [isAgg, run_underlying hu]) ((blk_cell (cells_put r2 rD rfl rfl _) 0).trans rfl) ((blk_cell (cells_put r3 rD rfl rfl _) 0).trans rfl)) ⟨?_, ?_⟩
  ·rw [hE]
  ·exact rB.trans (belowK_b (w := w) (Nat.le_refl _) _ D _ _ (by omega) rD rfl rfl)
 case stop =>
  rintro D c pre W hD ⟨k, hk⟩ ⟨rfl, pre', x, e, hn, hx, q1, q2, hBW⟩ hDD
  have hE := rankR_some (own := own) (flat := flat) (l := l) (k := k) (by rw [← e]; exact hk) hn hx
  gi_wp2
  show bodyPostM _ _ _ _ _ .ret _ _
  refine postM_done (D := D) hDD (results_2s rfl _ _ (g2 + 1 + 1) (g2 + 1 + 1 + 1) (.int .i64 (x.1 : Int)) (.int .i64 0) rfl rfl (fun w => by have hu := Try.underlying3; simp [isAgg, run_underlying hu]) (fun w => by have hu := Try.underlying33; simp [isAgg, run_underlying hu]) ((blk_cell (cells_put q1 hDD rfl rfl _) 0).trans rfl) ((blk_cell (cells_put q2 hDD rfl rfl _) 0).trans rfl)) ⟨?_, ?_⟩
  ·rw [hE]
  ·exact hBW.trans (belowK_b (w := w) (Nat.le_refl _) _ D _ _ (by omega) hDD rfl rfl)
 case body =>
  rintro lr pre x W ⟨⟨q1, q2, q3, q4⟩, hn, hBW⟩ hlen
  have hcf : W.cell? ⟨g2 + 1, 0, none⟩ = some (.int .i64 flat) := (blk_cell q1 0).trans rfl
  have hf2 := blk_frozen q2 0
  have hf3 := blk_frozen q3 0
  have hc2 : W.cell? ⟨g2 + 1 + 1, 0, none⟩ = some (.int .i64 0) := (blk_cell q2 0).trans rfl
  have hc3 : W.cell? ⟨g2 + 1 + 1 + 1, 0, none⟩ = some (.int .i64 0) := (blk_cell q3 0).trans rfl
  by_cases hx : x.2 = flat
  ·have z1 : (x.2 == flat) = true := beq_iff_eq.2 hx
   gi_wp2
   refine ⟨((KeepsOthers.setCell _ _ _).trans (KeepsOthers.setCell _ _ _)).from _, rfl, pre, x, rfl, hn, hx, ?_, ?_, ?_⟩
   ·exact (Below.heap_setCell _ _ _ _ (show g2 + 1 + 1 ≠ g2 + 1 + 1 + 1 by omega)).trans (blk_put q2 0 _ rfl)
   ·exact blk_put ((Below.heap_setCell _ _ _ _ (show g2 + 1 + 1 + 1 ≠ g2 + 1 + 1 by omega)).trans q3) 0 _ rfl
   ·exact below_set (below_set hBW (show w.heap.size ≤ g2 + 1 + 1 by omega)) (show w.heap.size ≤ g2 + 1 + 1 + 1 by omega)
  ·have z1 : (x.2 == flat) = false := beq_eq_false_iff_ne.2 hx
   gi_wp2
   refine ⟨(KeepsOthers.refl _).from _, ⟨Below.refl _ _, rfl⟩, ⟨q1, q2, q3, q4⟩, fun y hy => ?_, hBW⟩
   rcases List.mem_append.1 hy with h | h
   ·exact hn y h
   ·rw [List.mem_singleton.1 h]; exact hx
def market_Rank.f (a0_0 a0_1 : Int) (l0_2 : List Int) (a1 : Int) : Option (Int × Int) := if l0_2.length ≤ 5864062014805 then some (rankR a0_1 l0_2 a1) else none
theorem market_Rank.calls (a0_0 : Int) (a0_1 : Int) (A0_2 : Option Addr) (c0_2 : Nat) (l0_2 : List Int) (a1 : Int) (r1 : Int) (r2 : Int) (w : World) (hr0_2 : Kd.C (Kd.int .i64) w A0_2 l0_2.length l0_2) (hc0_2 : l0_2.length ≤ c0_2) (h : market_Rank.f a0_0 a0_1 l0_2 a1 = some (r1, r2)) :
  Calls Try.prog 28 #[.agg #[.int .i64 a0_0, .int .i64 a0_1, .slice A0_2 l0_2.length c0_2], .int .i64 a1] w fun e w' => e = .returned (.tuple #[.int .i64 r1, .int .i64 r2]) ∧ Below w.heap.size w w' := by
 unfold market_Rank.f at h
 by_cases hf : l0_2.length ≤ 5864062014805
 case neg => rw [if_neg hf] at h; cases h
 rw [if_pos hf] at h
 have e := Option.some.inj h
 have := rank_calls w a0_0 a0_1 a1 A0_2 c0_2 l0_2 hr0_2 hc0_2 hf
 rw [e] at this
 exact this
end
end Go.Proofs.Ytocbiggglnpeoaa.P
end
