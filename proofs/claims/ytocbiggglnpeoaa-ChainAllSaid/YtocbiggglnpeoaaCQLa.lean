/- Part 1 of the proof of ChainAll: what it alone needs. -/
import Derived.Test.YtocbiggglnpeoaaCQf
set_option linter.unusedVariables false
set_option linter.unusedSimpArgs false
section
namespace Go.Proofs.Ytocbiggglnpeoaa.P
open Go.RowKit Go.Proofs.YtocbiggglnpeoaaW.PrintWords Go.Proofs.YtocbiggglnpeoaaW.PrintLast Go.Proofs.YtocbiggglnpeoaaW.PrintMore
attribute [local go_sem] max2_int min2_int max_two min_two max_three min_three max_four min_four
set_option linter.unusedVariables false
set_option linter.unusedSimpArgs false
set_option maxHeartbeats 8000000
set_option maxRecDepth 100000
section
mutual
def cohousinglaw26_ChainAll.l0 : Nat → List (S49) → Bool → Int → List (S55) → List (S51) → Int → List (S84) → List (S46) → Option (Bool)
 | 0, _, _, _, _, _, _, _, _ => none
 | k + 1, x1, x7, x8, x9, x10, x11, x439000, x439001 => if x11 < (x1.length : Int) then (cohousinglaw26_ChainAll.l1 k x1 x7 x8 x9 x10 x11 0 x439000 x439001) else ((chain_Run.f x439000 x439001 x1 x8 x9).bind fun bt441 => ((chain_Run.f x439000 x439001 x1 (wrap64 (x8 - 1)) x9).bind fun bt448 => (if x7 = true then (if bt441.2.2 = 0 then (if bt448.2.2 = 0 then ((cohousingref26_SameMoves.f k bt441.1 x10).bind fun t455 => (if t455 = true then (if (bt441.2.1.length : Int) = 0 then (if (bt448.1.length : Int) = 0 then (some ((bt448.2.1.length : Int) == (x1.length : Int))) else (some false)) else (some false)) else (some false))) else (some false)) else (some false)) else (some false))))
def cohousinglaw26_ChainAll.l1 : Nat → List (S49) → Bool → Int → List (S55) → List (S51) → Int → Int → List (S84) → List (S46) → Option (Bool)
 | 0, _, _, _, _, _, _, _, _, _ => none
 | k + 1, x1, x7, x8, x9, x10, x11, x12, x439000, x439001 => if 0 ≤ x11 then (if x11 < (x1.length : Int) then (if x12 < (((rd_T49 x1 x11).f1).length : Int) then (if 0 ≤ x12 then (if x9.length < 5864062014805 then (if x10.length < 5864062014805 then (cohousinglaw26_ChainAll.l1 k x1 x7 x8 (x9 ++ [(⟨1, (rd_T51 ((rd_T49 x1 x11).f1) x12).f0, x8⟩ : S55)]) (x10 ++ [(⟨(rd_T51 ((rd_T49 x1 x11).f1) x12).f0, (rd_T51 ((rd_T49 x1 x11).f1) x12).f1, (rd_T51 ((rd_T49 x1 x11).f1) x12).f2⟩ : S51)]) x11 (wrap64 (x12 + 1)) x439000 x439001) else (none)) else (none)) else (none)) else (cohousinglaw26_ChainAll.l0 k x1 x7 x8 x9 x10 (wrap64 (x11 + 1)) x439000 x439001)) else (none)) else (none)
end
def cohousinglaw26_ChainAll.f (k : Nat) (l0_0 : List (S84)) (l0_1 : List (S46)) (l1 : List (S49)) (a2 : Int) : Option (Bool) := (cohousinglaw26_head.f k).bind fun t439 => ((cohousinglaw26_usable.f k l0_0 l0_1 l1 ([] : List (S55))).bind fun t440 => (if t440 = true then (cohousinglaw26_ChainAll.l0 k l1 t439 (wrap64 (1 + (Int.tmod (wrap64 (a2)) 36524))) ([] : List (S55)) ([] : List (S51)) 0 l0_0 l0_1) else (some t439)))
theorem cohousinglaw26_ChainAll.calls (k : Nat) (A0_0 : Option Addr) (c0_0 : Nat) (l0_0 : List (S84)) (A0_1 : Option Addr) (c0_1 : Nat) (l0_1 : List (S46)) (A1 : Option Addr) (c1 : Nat) (l1 : List (S49)) (a2 : Int) (r : Bool) (w : World) (hr0_0 : Kd.C k84 w A0_0 l0_0.length l0_0) (hc0_0 : l0_0.length ≤ c0_0) (hr0_1 : Kd.C k46 w A0_1 l0_1.length l0_1) (hc0_1 : l0_1.length ≤ c0_1) (hr1 : Kd.C k49 w A1 l1.length l1) (hc1 : l1.length ≤ c1) (h : cohousinglaw26_ChainAll.f k l0_0 l0_1 l1 a2 = some r) :
  Calls Try.prog 6 #[.agg #[.slice A0_0 l0_0.length c0_0, .slice A0_1 l0_1.length c0_1], .slice A1 l1.length c1, .int .u16 a2] w fun e w' => e = .returned (.bool r) ∧ Below w.heap.size w w' := by
 have hu25 := Try.underlying25
 have hu55 := Try.underlying55
 have hu51 := Try.underlying51
 have HR0_0 := Aside0.mk hr0_0
 have HC0_0 := Aside0.mk hc0_0
 clear hr0_0 hc0_0
 have HR0_1 := Aside0.mk hr0_1
 have HC0_1 := Aside0.mk hc0_1
 clear hr0_1 hc0_1
 have HR1 := Aside0.mk hr1
 have HC1 := Aside0.mk hc1
 clear hr1 hc1
 have HB := Aside0.mk (Below.refl w.heap.size w)
 have H : ((cohousinglaw26_head.f k).bind fun t439 => ((cohousinglaw26_usable.f k l0_0 l0_1 l1 ([] : List (S55))).bind fun t440 => (if t440 = true then (cohousinglaw26_ChainAll.l0 k l1 t439 (wrap64 (1 + (Int.tmod (wrap64 (a2)) 36524))) ([] : List (S55)) ([] : List (S51)) 0 l0_0 l0_1) else (some t439)))) = some r := h
 clear h
 replace H := Option.bind_eq_some_iff.mp H
 obtain ⟨t439, A40, H⟩ := H
 replace H : ((cohousinglaw26_usable.f k l0_0 l0_1 l1 ([] : List (S55))).bind fun t440 => (if t440 = true then (cohousinglaw26_ChainAll.l0 k l1 t439 (wrap64 (1 + (Int.tmod (wrap64 (a2)) 36524))) ([] : List (S55)) ([] : List (S51)) 0 l0_0 l0_1) else (some t439))) = some r := H
 have A4 := Aside0.mk A40
 clear A40
 replace H := Option.bind_eq_some_iff.mp H
 obtain ⟨t440, A50, H⟩ := H
 replace H : (if t440 = true then (cohousinglaw26_ChainAll.l0 k l1 t439 (wrap64 (1 + (Int.tmod (wrap64 (a2)) 36524))) ([] : List (S55)) ([] : List (S51)) 0 l0_0 l0_1) else (some t439)) = some r := H
 have A5 := Aside0.mk A50
 clear A50
 by_cases c6 : t440 = true
 ·subst c6
  have H1 : (cohousinglaw26_ChainAll.l0 k l1 t439 (wrap64 (1 + (Int.tmod (wrap64 (a2)) 36524))) ([] : List (S55)) ([] : List (S51)) 0 l0_0 l0_1) = some r := by rw [if_pos rfl] at H; exact H
  clear H
  have H := H1
  clear H1
  have H' := Aside0.mk H
  clear H
  go_enter Try.func6, Try.ntmps6
  go_wp2_with (first | ((with_reducible refine gate_dst (N := 3) rfl ?_); (try (refine gate_guard (by rfl) ?_; dsimp only)); refine box_event ?hg (N := 3) ?hd (cs := #[.slice A0_0 l0_0.length c0_0, .slice A0_1 l0_1.length c0_1]) (t := 25) ?hr ?_; (case hd => rfl); (case hg => rfl); (case hr => first | (go_simp; done) | (go_simp; rfl)); intro gb438 hg w7 hbox hb; have n0_ := Aside0.mk (below_step (bb_ HB) hb); have n1_ := Aside0.mk (hbox); have n2_ := Aside0.mk ((by rw [hg]; exact (below_size (bb_ HB)) : w.heap.size ≤ gb438)); have n3_ := Aside0.mk ((by rw [hg]; exact (below_size (bb_ HB)) : w.heap.size ≤ gb438)); clear HB; have HB := n0_; have BK438 := n1_; have GW438 := n2_; have GE438 := n3_; clear n0_ n1_ n2_ n3_; clear hb hbox hg) | ((with_reducible refine gate_callee (f := 10) rfl ?_); refine gl_ (some 19) Try.func10 #[] ?_; (with_reducible refine (cohousinglaw26_head.calls k  t439 _ A4.out).mono ?_); rintro e w8 ⟨rfl, hb⟩; refine ⟨_, rfl, ?_⟩; have n0_ := Aside0.mk (blk_below (g := gb438) (o := .cells #[.slice A0_0 l0_0.length c0_0, .slice A0_1 l0_1.length c0_1] 25 (0, 0)) (kk_ BK438) hb); have n1_ := Aside0.mk (below_step (bs_ HB GE438.out) hb); clear BK438; clear HB; have BK438 := n0_; have HB := n1_; clear n0_ n1_; (try clear hb); (try clear hb2); (try clear hk); (try clear hi); have hcz9_0 : w8.cell? ⟨gb438, 0, none⟩ = some (.slice A0_0 l0_0.length c0_0) := (blk_cell BK438.out 0).trans rfl; have hcz9_1 : w8.cell? ⟨gb438, 1, none⟩ = some (.slice A0_1 l0_1.length c0_1) := (blk_cell BK438.out 1).trans rfl; have hfz9_0 := blk_frozen BK438.out 0; have hfz9_1 := blk_frozen BK438.out 1) | ((with_reducible refine gate_callee (f := 20) rfl ?_); refine gl_ (some 22) Try.func20 #[.agg #[.slice A0_0 l0_0.length c0_0, .slice A0_1 l0_1.length c0_1], .slice A1 l1.length c1, .slice none 0 0] ?_; (refine (cohousinglaw26_usable.calls k _ _ l0_0 _ _ l0_1 _ _ l1 _ _ ([] : List (S55)) true _ ?side1 ?side2 ?side3 ?side4 ?side5 ?side6 ?side7 ?side8 A5.out).mono ?_); (case side1 => exact cc_ ((Kd.C_below HR0_0.out HB.out))); (case side2 => exact HC0_0.out); (case side3 => exact cc_ ((Kd.C_below HR0_1.out HB.out))); (case side4 => exact HC0_1.out); (case side5 => exact cc_ ((Kd.C_below HR1.out HB.out))); (case side6 => exact HC1.out); (case side7 => exact Kd.C_nil _ _); (case side8 => exact Nat.le_refl _); rintro e w10 ⟨rfl, hb⟩; refine ⟨_, rfl, ?_⟩; have n0_ := Aside0.mk (blk_below (g := gb438) (o := .cells #[.slice A0_0 l0_0.length c0_0, .slice A0_1 l0_1.length c0_1] 25 (0, 0)) (kk_ BK438) hb); have n1_ := Aside0.mk (below_step (bs_ HB GE438.out) hb); clear BK438; clear HB; have BK438 := n0_; have HB := n1_; clear n0_ n1_; (try clear hb); (try clear hb2); (try clear hk); (try clear hi)))
  go_loopg [9, 10, 11] k (fun kq v9 v10 v11 w' => ∃ (x9_1 : List (S55)) (x10_1 : List (S51)) (x11_1 : Int), v11 = .int .i64 x11_1 ∧ Aside0 (cohousinglaw26_ChainAll.l0 kq l1 t439 (wrap64 (1 + (Int.tmod (wrap64 (a2)) 36524))) x9_1 x10_1 x11_1 l0_0 l0_1 = some r) ∧ Aside0 (kq ≤ k) ∧ Aside0 (Kd.R k55 55 w' w.heap.size (fun _ => True) v9 x9_1) ∧ Aside0 (Kd.R k51 51 w' w.heap.size (fun _ => True) v10 x10_1) ∧ Aside0 (w'.heap[gb438]? = some (.cells #[(.slice A0_0 l0_0.length c0_0), (.slice A0_1 l0_1.length c0_1)] 25 (0, 0))) ∧ Aside0 (Below w.heap.size w w'))
  case atStart => exact ⟨(([] : List (S55))), (([] : List (S51))), (0), sd_, H', ⟨Nat.le_refl _⟩, ⟨by first | exact Kd.R_nil _ _ _ _ _ | exact Kd.N_nil _ _ _ _ _ | exact Kd.V_nil _ _ _ _ _ | exact Kd.Q_nil _ _ _ _ _ | exact Kd.S_nil _ _ _ _ _⟩, ⟨by first | exact Kd.R_nil _ _ _ _ _ | exact Kd.N_nil _ _ _ _ _ | exact Kd.V_nil _ _ _ _ _ | exact Kd.Q_nil _ _ _ _ _ | exact Kd.S_nil _ _ _ _ _⟩, ⟨by (with_reducible repeat (first | refine blk_drewN ?_ _ | refine blk_drew ?_ | refine blk_alloc ?_ _)); exact BK438.out⟩, ⟨by repeat (first | (with_reducible first | exact HB.out | apply below_alloc | apply pw_below_drewN | apply below_drew1 | refine below_set ?_ GE438.out) | exact HB.out)⟩⟩
  case round =>
   clear H'
   try clear c1
   try clear c2
   try clear p2
   try clear c6
   try clear p6
   try clear c10
   try clear hcz9_0
   try clear hcz9_1
   try clear hfz9_0
   try clear hfz9_1
   obtain ⟨x9_1, x10_1, x11_1, rfl, HA, HK1, HO_9, HO_10, BK438, HB⟩ := hrel
   cases gk with
   | zero => exact absurd HA.out (by simp [cohousinglaw26_ChainAll.l0])
   | succ k1 =>
    have H := HA.out
    clear HA
    simp only [cohousinglaw26_ChainAll.l0] at H
    by_cases c11 : x11_1 < (l1.length : Int)
    ·rw [if_pos c11] at H
     have c11b0 : decide (x11_1 < (l1.length : Int)) = true := decide_eq_true c11
     clear c11
     have H' := Aside0.mk H
     clear H
     go_wp2
     go_loopg [9, 10, 12] k1 (fun kq v9 v10 v12 w' => ∃ (x9_2 : List (S55)) (x10_2 : List (S51)) (x12_2 : Int), v12 = .int .i64 x12_2 ∧ Aside0 (cohousinglaw26_ChainAll.l1 kq l1 t439 (wrap64 (1 + (Int.tmod (wrap64 (a2)) 36524))) x9_2 x10_2 x11_1 x12_2 l0_0 l0_1 = some r) ∧ Aside0 (kq ≤ k1) ∧ Aside0 (Kd.R k55 55 w' w.heap.size (fun _ => True) v9 x9_2) ∧ Aside0 (Kd.R k51 51 w' w.heap.size (fun _ => True) v10 x10_2) ∧ Aside0 (w'.heap[gb438]? = some (.cells #[(.slice A0_0 l0_0.length c0_0), (.slice A0_1 l0_1.length c0_1)] 25 (0, 0))) ∧ Aside0 (Below w.heap.size w w'))
     case atStart => exact ⟨(x9_1), (x10_1), (0), sd_, H', ⟨Nat.le_refl _⟩, ⟨by (with_reducible repeat (first | apply Kd.R_alloc | apply Kd.R_drewN | apply Kd.R_drew)); exact HO_9.out⟩, ⟨by (with_reducible repeat (first | apply Kd.R_alloc | apply Kd.R_drewN | apply Kd.R_drew)); exact HO_10.out⟩, ⟨by (with_reducible repeat (first | refine blk_drewN ?_ _ | refine blk_drew ?_ | refine blk_alloc ?_ _)); exact BK438.out⟩, ⟨by repeat (first | (with_reducible first | exact HB.out | apply below_alloc | apply pw_below_drewN | apply below_drew1 | refine below_set ?_ GE438.out) | exact HB.out)⟩⟩
     case round =>
      clear H'
      try clear c1
      try clear c2
      try clear p2
      try clear c6
      try clear p6
      try clear c10
      try clear c11
      try clear c11b0
      try clear hcz9_0
      try clear hcz9_1
      try clear hfz9_0
      try clear hfz9_1
      try clear p2
      try clear p6
      obtain ⟨x9_2, x10_2, x12_2, rfl, HA, HK2, HO_9, HO_10, BK438, HB⟩ := hrel
      cases gk with
      | zero => exact absurd HA.out (by simp [cohousinglaw26_ChainAll.l1])
      | succ k2 =>
       have H := HA.out
       clear HA
       simp only [cohousinglaw26_ChainAll.l1] at H
       by_cases c12 : 0 ≤ x11_1
       ·rw [if_pos c12] at H
        have c12b0 : decide (0 ≤ x11_1) = true := decide_eq_true c12
        clear c12
        by_cases c13 : x11_1 < (l1.length : Int)
        ·rw [if_pos c13] at H
         have c13b0 : decide (x11_1 < (l1.length : Int)) = true := decide_eq_true c13
         clear c13
         by_cases c14 : x12_2 < (((rd_T49 l1 x11_1).f1).length : Int)
         ·rw [if_pos c14] at H
          have c14b0 : decide (x12_2 < (((rd_T49 l1 x11_1).f1).length : Int)) = true := decide_eq_true c14
          clear c14
          by_cases c15 : 0 ≤ x12_2
          ·rw [if_pos c15] at H
           have c15b0 : decide (0 ≤ x12_2) = true := decide_eq_true c15
           clear c15
           by_cases c16 : x9_2.length < 5864062014805
           ·rw [if_pos c16] at H
            have LMc16 := Aside0.mk c16
            clear c16
            obtain ⟨y459, hy459⟩ : ∃ y_ : List (S55), y_ = (x9_2 ++ [(⟨1, (rd_T51 ((rd_T49 l1 x11_1).f1) x12_2).f0, (wrap64 (1 + (Int.tmod (wrap64 (a2)) 36524)))⟩ : S55)]) := ⟨_, rfl⟩
            replace H : (if x10_2.length < 5864062014805 then (cohousinglaw26_ChainAll.l1 k2 l1 t439 (wrap64 (1 + (Int.tmod (wrap64 (a2)) 36524))) y459 (x10_2 ++ [(⟨(rd_T51 ((rd_T49 l1 x11_1).f1) x12_2).f0, (rd_T51 ((rd_T49 l1 x11_1).f1) x12_2).f1, (rd_T51 ((rd_T49 l1 x11_1).f1) x12_2).f2⟩ : S51)]) x11_1 (wrap64 (x12_2 + 1)) l0_0 l0_1) else (none)) = some r := by first | (rw [hy459]; with_reducible exact H) | (have H2_ := (Option.bind_some _ _).symm.trans H; rw [hy459]; with_reducible exact H2_) | (have H2_ := (Option.bind_some _ _).symm.trans H; with_reducible exact H2_) | with_reducible exact H | (rw [hy459]; exact H) | exact H
            have Ny459 := Aside0.mk hy459
            clear hy459
            by_cases c17 : x10_2.length < 5864062014805
            ·rw [if_pos c17] at H
             have LMc17 := Aside0.mk c17
             clear c17
             obtain ⟨y464, hy464⟩ : ∃ y_ : List (S51), y_ = (x10_2 ++ [(⟨(rd_T51 ((rd_T49 l1 x11_1).f1) x12_2).f0, (rd_T51 ((rd_T49 l1 x11_1).f1) x12_2).f1, (rd_T51 ((rd_T49 l1 x11_1).f1) x12_2).f2⟩ : S51)]) := ⟨_, rfl⟩
             replace H : (cohousinglaw26_ChainAll.l1 k2 l1 t439 (wrap64 (1 + (Int.tmod (wrap64 (a2)) 36524))) y459 y464 x11_1 (wrap64 (x12_2 + 1)) l0_0 l0_1) = some r := by first | (rw [hy464]; with_reducible exact H) | (have H2_ := (Option.bind_some _ _).symm.trans H; rw [hy464]; with_reducible exact H2_) | (have H2_ := (Option.bind_some _ _).symm.trans H; with_reducible exact H2_) | with_reducible exact H | (rw [hy464]; exact H) | exact H
             have Ny464 := Aside0.mk hy464
             clear hy464
             have H' := Aside0.mk H
             clear H
             have p456 : 0 ≤ (x11_1 : Int) := od_
             have q456 : x11_1 < (l1.length : Int) := od_
             obtain ⟨ad456, A456_1, c456_1, e456, hx456_0, hx456_1, hl456_1, hi456_1⟩ := at_T49 HR1.out x11_1 p456 q456
             cases e456
             replace hx456_0 := (HB.out.cell (World.block_lt_of_cell? w _ hx456_0)).trans hx456_0
             replace hx456_1 := (HB.out.cell (World.block_lt_of_cell? w _ hx456_1)).trans hx456_1
             have HR456_1 := Aside0.mk hi456_1
             have HC456_1 := Aside0.mk hl456_1
             clear hi456_1 hl456_1
             replace p456 := eq_true p456
             replace q456 := eq_true q456
             have p457 : 0 ≤ (x11_1 : Int) := od_
             have q457 : x11_1 < (l1.length : Int) := od_
             obtain ⟨ad457, A457_1, c457_1, e457, hx457_0, hx457_1, hl457_1, hi457_1⟩ := at_T49 HR1.out x11_1 p457 q457
             obtain rfl : ad456 = ad457 := (by injection e457)
             replace hx457_0 := (HB.out.cell (World.block_lt_of_cell? w _ hx457_0)).trans hx457_0
             replace hx457_1 := (HB.out.cell (World.block_lt_of_cell? w _ hx457_1)).trans hx457_1
             have HR457_1 := Aside0.mk hi457_1
             have HC457_1 := Aside0.mk hl457_1
             clear hi457_1 hl457_1
             replace p457 := eq_true p457
             replace q457 := eq_true q457
             have ea_ := Option.some.inj (hx456_1.symm.trans hx457_1)
             injection ea_ with ea_ en_ ec_
             subst ea_
             subst ec_
             clear en_
             have p458 : 0 ≤ (x12_2 : Int) := od_
             have q458 : x12_2 < (((rd_T49 l1 x11_1).f1).length : Int) := od_
             obtain ⟨ad458, e458, hx458_0, hx458_1, hx458_2⟩ := at_T51 HR457_1.out x12_2 p458 q458
             cases e458
             replace hx458_0 := (HB.out.cell (World.block_lt_of_cell? w _ hx458_0)).trans hx458_0
             replace hx458_1 := (HB.out.cell (World.block_lt_of_cell? w _ hx458_1)).trans hx458_1
             replace hx458_2 := (HB.out.cell (World.block_lt_of_cell? w _ hx458_2)).trans hx458_2
             replace p458 := eq_true p458
             replace q458 := eq_true q458
             go_wp2_with (first | ((with_reducible refine gate_builtin (b := .append) (xs := #[.tmp 45, .tmp 57]) rfl ?_); (try (refine gate_guard (by rfl) ?_; dsimp only)); at_builtin; refine Kd.R_append k55 (w0 := w) w.heap.size rfl (.tmp 45) (.tmp 57) 27 55 (.agg #[(.int .i64 0), (.int .i64 0), (.int .i64 0)]) 24 rfl Try.underlying27 info55 rfl (by decide) (by omega) u9 x9_2 (⟨1, (rd_T51 ((rd_T49 l1 x11_1).f1) x12_2).f0, (wrap64 (1 + (Int.tmod (wrap64 (a2)) 36524)))⟩ : S55) [.int .i64 1, .int .i64 ((rd_T51 ((rd_T49 l1 x11_1).f1) x12_2).f0), .int .i64 (wrap64 (1 + (Int.tmod (wrap64 (a2)) 36524)))] (fun _ => True) (fun _ => False) rfl rfl ?aP (fun _ hk => hk.elim) ?aF ?aO ?aB ?aS ?aL ?_; (case aP => exact k55_mkM _ _ _ (⟨1, (rd_T51 ((rd_T49 l1 x11_1).f1) x12_2).f0, (wrap64 (1 + (Int.tmod (wrap64 (a2)) 36524)))⟩ : S55)); (case aB => exact (bs_ HB GE438.out)); (case aF => exact (fun _ _ => trivial)); (case aO => exact (rr_ HO_9)); (case aS => exact (below_size (bs_ HB GE438.out))); (case aL => have := LMc16.out; omega); intro v460 w18 ho hb hg hat; rw [← Ny459.out] at ho; have n0_ := Aside0.mk (Kd.R_over' (rr_ HO_10) (Kd.R_typed (rr_ HO_9)) (by decide) hg); have n1_ := Aside0.mk (blk_grown (g := gb438) (o := .cells #[.slice A0_0 l0_0.length c0_0, .slice A0_1 l0_1.length c0_1] 25 (0, 0)) (kk_ BK438) hg (Kd.R_ne HO_9.out BK438.out (by decide))); have n2_ := Aside0.mk (hb); have n3_ := Aside0.mk (ho); clear HO_10; clear BK438; clear HB; clear HO_9; have HO_10 := n0_; have BK438 := n1_; have HB := n2_; have HO461 := n3_; clear n0_ n1_ n2_ n3_; clear ho hb hg hat; have p462 : 0 ≤ (x11_1 : Int) := od_; have q462 : x11_1 < (l1.length : Int) := od_; obtain ⟨ad462, A462_1, c462_1, e462, hx462_0, hx462_1, hl462_1, hi462_1⟩ := at_T49 HR1.out x11_1 p462 q462; obtain rfl : ad456 = ad462 := (by injection e462); replace hx462_0 := (HB.out.cell (World.block_lt_of_cell? w _ hx462_0)).trans hx462_0; replace hx462_1 := (HB.out.cell (World.block_lt_of_cell? w _ hx462_1)).trans hx462_1; have HR462_1 := Aside0.mk hi462_1; have HC462_1 := Aside0.mk hl462_1; clear hi462_1 hl462_1; replace p462 := eq_true p462; replace q462 := eq_true q462; have p463 : 0 ≤ (x12_2 : Int) := od_; have q463 : x12_2 < (((rd_T49 l1 x11_1).f1).length : Int) := od_; obtain ⟨ad463, e463, hx463_0, hx463_1, hx463_2⟩ := at_T51 HR462_1.out x12_2 p463 q463; cases e463; replace hx463_0 := (HB.out.cell (World.block_lt_of_cell? w _ hx463_0)).trans hx463_0; replace hx463_1 := (HB.out.cell (World.block_lt_of_cell? w _ hx463_1)).trans hx463_1; replace hx463_2 := (HB.out.cell (World.block_lt_of_cell? w _ hx463_2)).trans hx463_2; replace p463 := eq_true p463; replace q463 := eq_true q463) | ((with_reducible refine gate_builtin (b := .append) (xs := #[.tmp 59, .tmp 68]) rfl ?_); (try (refine gate_guard (by rfl) ?_; dsimp only)); at_builtin; refine Kd.R_append k51 (w0 := w) w.heap.size rfl (.tmp 59) (.tmp 68) 28 51 (.agg #[(.int .i64 0), (.int .i64 0), (.int .i64 0)]) 24 rfl Try.underlying28 info51 rfl (by decide) (by omega) u10 x10_2 (⟨(rd_T51 ((rd_T49 l1 x11_1).f1) x12_2).f0, (rd_T51 ((rd_T49 l1 x11_1).f1) x12_2).f1, (rd_T51 ((rd_T49 l1 x11_1).f1) x12_2).f2⟩ : S51) [.int .i64 ((rd_T51 ((rd_T49 l1 x11_1).f1) x12_2).f0), .int .i64 ((rd_T51 ((rd_T49 l1 x11_1).f1) x12_2).f1), .int .i64 ((rd_T51 ((rd_T49 l1 x11_1).f1) x12_2).f2)] (fun _ => True) (fun _ => False) rfl rfl ?aP (fun _ hk => hk.elim) ?aF ?aO ?aB ?aS ?aL ?_; (case aP => exact k51_mkM _ _ _ (⟨(rd_T51 ((rd_T49 l1 x11_1).f1) x12_2).f0, (rd_T51 ((rd_T49 l1 x11_1).f1) x12_2).f1, (rd_T51 ((rd_T49 l1 x11_1).f1) x12_2).f2⟩ : S51)); (case aB => exact (bs_ HB GE438.out)); (case aF => exact (fun _ _ => trivial)); (case aO => exact (rr_ HO_10)); (case aS => exact (below_size (bs_ HB GE438.out))); (case aL => have := LMc17.out; omega); intro v465 w19 ho hb hg hat; rw [← Ny464.out] at ho; have n0_ := Aside0.mk (blk_grown (g := gb438) (o := .cells #[.slice A0_0 l0_0.length c0_0, .slice A0_1 l0_1.length c0_1] 25 (0, 0)) (kk_ BK438) hg (Kd.R_ne HO_10.out BK438.out (by decide))); have n1_ := Aside0.mk (Kd.R_over' (rr_ HO461) (Kd.R_typed (rr_ HO_10)) (by decide) hg); have n2_ := Aside0.mk (hb); have n3_ := Aside0.mk (ho); clear BK438; clear HO461; clear HB; clear HO_10; have BK438 := n0_; have HO461 := n1_; have HB := n2_; have HO466 := n3_; clear n0_ n1_ n2_ n3_; clear ho hb hg hat))
             go_roundg k2
             case measure => have := HK1.out; have := HK2.out; omega
             case rel => exact ⟨(y459), (y464), (wrap64 (x12_2 + 1)), sd_, H', ⟨by have := HK1.out; have := HK2.out; omega⟩, ⟨by (with_reducible repeat (first | apply Kd.R_alloc | apply Kd.R_drewN | apply Kd.R_drew)); exact HO461.out⟩, ⟨by (with_reducible repeat (first | apply Kd.R_alloc | apply Kd.R_drewN | apply Kd.R_drew)); exact HO466.out⟩, ⟨by (with_reducible repeat (first | refine blk_drewN ?_ _ | refine blk_drew ?_ | refine blk_alloc ?_ _)); exact BK438.out⟩, ⟨by repeat (first | (with_reducible first | exact HB.out | apply below_alloc | apply pw_below_drewN | apply below_drew1 | refine below_set ?_ GE438.out) | exact HB.out)⟩⟩
            ·rw [if_neg c17] at H
             exact absurd H (by simp)
           ·rw [if_neg c16] at H
            exact absurd H (by simp)
          ·rw [if_neg c15] at H
           exact absurd H (by simp)
         ·rw [if_neg c14] at H
          have c14b0 : decide (x12_2 < (((rd_T49 l1 x11_1).f1).length : Int)) = false := decide_eq_false c14
          clear c14
          have H' := Aside0.mk H
          clear H
          have p456 : 0 ≤ (x11_1 : Int) := od_
          have q456 : x11_1 < (l1.length : Int) := od_
          obtain ⟨ad456, A456_1, c456_1, e456, hx456_0, hx456_1, hl456_1, hi456_1⟩ := at_T49 HR1.out x11_1 p456 q456
          cases e456
          replace hx456_0 := (HB.out.cell (World.block_lt_of_cell? w _ hx456_0)).trans hx456_0
          replace hx456_1 := (HB.out.cell (World.block_lt_of_cell? w _ hx456_1)).trans hx456_1
          have HR456_1 := Aside0.mk hi456_1
          have HC456_1 := Aside0.mk hl456_1
          clear hi456_1 hl456_1
          replace p456 := eq_true p456
          replace q456 := eq_true q456
          go_wp2
          go_roundg k2
          case measure => have := HK1.out; have := HK2.out; omega
          case rel => exact ⟨(x9_2), (x10_2), (wrap64 (x11_1 + 1)), sd_, H', ⟨by have := HK1.out; have := HK2.out; omega⟩, ⟨by (with_reducible repeat (first | apply Kd.R_alloc | apply Kd.R_drewN | apply Kd.R_drew)); exact HO_9.out⟩, ⟨by (with_reducible repeat (first | apply Kd.R_alloc | apply Kd.R_drewN | apply Kd.R_drew)); exact HO_10.out⟩, ⟨by (with_reducible repeat (first | refine blk_drewN ?_ _ | refine blk_drew ?_ | refine blk_alloc ?_ _)); exact BK438.out⟩, ⟨by repeat (first | (with_reducible first | exact HB.out | apply below_alloc | apply pw_below_drewN | apply below_drew1 | refine below_set ?_ GE438.out) | exact HB.out)⟩⟩
        ·rw [if_neg c13] at H
         exact absurd H (by simp)
       ·rw [if_neg c12] at H
        exact absurd H (by simp)
    ·rw [if_neg c11] at H
     have c11b0 : decide (x11_1 < (l1.length : Int)) = false := decide_eq_false c11
     clear c11
     replace H := Option.bind_eq_some_iff.mp H
     obtain ⟨⟨t441, t444, t447⟩, A200, H⟩ := H
     replace H : ((chain_Run.f l0_0 l0_1 l1 (wrap64 ((wrap64 (1 + (Int.tmod (wrap64 (a2)) 36524))) - 1)) x9_1).bind fun bt448 => (if t439 = true then (if t447 = 0 then (if bt448.2.2 = 0 then ((cohousingref26_SameMoves.f k1 t441 x10_1).bind fun t455 => (if t455 = true then (if (t444.length : Int) = 0 then (if (bt448.1.length : Int) = 0 then (some ((bt448.2.1.length : Int) == (l1.length : Int))) else (some false)) else (some false)) else (some false))) else (some false)) else (some false)) else (some false))) = some r := H
     have A20 := Aside0.mk A200
     clear A200
     replace H := Option.bind_eq_some_iff.mp H
     obtain ⟨⟨t448, t451, t454⟩, A210, H⟩ := H
     replace H : (if t439 = true then (if t447 = 0 then (if t454 = 0 then ((cohousingref26_SameMoves.f k1 t441 x10_1).bind fun t455 => (if t455 = true then (if (t444.length : Int) = 0 then (if (t448.length : Int) = 0 then (some ((t451.length : Int) == (l1.length : Int))) else (some false)) else (some false)) else (some false))) else (some false)) else (some false)) else (some false)) = some r := H
     have A21 := Aside0.mk A210
     clear A210
     by_cases c22 : t439 = true
     ·subst c22
      have H1 : (if t447 = 0 then (if t454 = 0 then ((cohousingref26_SameMoves.f k1 t441 x10_1).bind fun t455 => (if t455 = true then (if (t444.length : Int) = 0 then (if (t448.length : Int) = 0 then (some ((t451.length : Int) == (l1.length : Int))) else (some false)) else (some false)) else (some false))) else (some false)) else (some false)) = some r := by rw [if_pos rfl] at H; exact H
      clear H
      have H := H1
      clear H1
      by_cases c23 : t447 = 0
      ·rw [if_pos c23] at H
       have c23b0 : (t447 == 0) = true := beq_iff_eq.mpr c23
       have c23b1 : (t447 != 0) = false := bne_eq_false_iff_eq.mpr c23
       clear c23
       by_cases c24 : t454 = 0
       ·rw [if_pos c24] at H
        have c24b0 : (t454 == 0) = true := beq_iff_eq.mpr c24
        have c24b1 : (t454 != 0) = false := bne_eq_false_iff_eq.mpr c24
        clear c24
        replace H := Option.bind_eq_some_iff.mp H
        obtain ⟨t455, A250, H⟩ := H
        replace H : (if t455 = true then (if (t444.length : Int) = 0 then (if (t448.length : Int) = 0 then (some ((t451.length : Int) == (l1.length : Int))) else (some false)) else (some false)) else (some false)) = some r := H
        have A25 := Aside0.mk A250
        clear A250
        by_cases c26 : t455 = true
        ·subst c26
         have H1 : (if (t444.length : Int) = 0 then (if (t448.length : Int) = 0 then (some ((t451.length : Int) == (l1.length : Int))) else (some false)) else (some false)) = some r := by rw [if_pos rfl] at H; exact H
         clear H
         have H := H1
         clear H1
         by_cases c27 : (t444.length : Int) = 0
         ·rw [if_pos c27] at H
          have c27b0 : ((t444.length : Int) == 0) = true := beq_iff_eq.mpr c27
          have c27b1 : ((t444.length : Int) != 0) = false := bne_eq_false_iff_eq.mpr c27
          clear c27
          by_cases c28 : (t448.length : Int) = 0
          ·rw [if_pos c28] at H
           have c28b0 : ((t448.length : Int) == 0) = true := beq_iff_eq.mpr c28
           have c28b1 : ((t448.length : Int) != 0) = false := bne_eq_false_iff_eq.mpr c28
           clear c28
           obtain rfl := Option.some.inj H
           have hcz29_0 : wr.cell? ⟨gb438, 0, none⟩ = some (.slice A0_0 l0_0.length c0_0) := (blk_cell BK438.out 0).trans rfl
           have hcz29_1 : wr.cell? ⟨gb438, 1, none⟩ = some (.slice A0_1 l0_1.length c0_1) := (blk_cell BK438.out 1).trans rfl
           have hfz29_0 := blk_frozen BK438.out 0
           have hfz29_1 := blk_frozen BK438.out 1
           obtain ⟨Ao30, co30, eo30⟩ := Kd.R_slice HO_9.out
           subst eo30
           go_wp2_with (first | ((with_reducible refine gate_callee (f := 13) rfl ?_); refine gl_ (some 75) Try.func13 #[.agg #[.slice A0_0 l0_0.length c0_0, .slice A0_1 l0_1.length c0_1], .slice A1 l1.length c1, .int .i64 (wrap64 (1 + (Int.tmod (wrap64 (a2)) 36524))), .slice Ao30 x9_1.length co30] ?_; (with_reducible refine (chain_Run.calls _ _ l0_0 _ _ l0_1 _ _ l1 (wrap64 (1 + (Int.tmod (wrap64 (a2)) 36524))) _ _ x9_1 t441 t444 t447 _ ?side1 ?side2 ?side3 ?side4 ?side5 ?side6 ?side7 ?side8 A20.out).mono ?_); (case side1 => exact cc_ ((Kd.C_below HR0_0.out HB.out))); (case side2 => exact HC0_0.out); (case side3 => exact cc_ ((Kd.C_below HR0_1.out HB.out))); (case side4 => exact HC0_1.out); (case side5 => exact cc_ ((Kd.C_below HR1.out HB.out))); (case side6 => exact HC1.out); (case side7 => exact cc_ ((Kd.R_reads' HO_9.out).2.2)); (case side8 => exact (Kd.R_reads' HO_9.out).2.1); rintro e w31 ⟨v442, v445, rfl, ho0, ho1, hb⟩; refine ⟨_, rfl, ?_⟩; have n0_ := Aside0.mk (Kd.R_below (rr_ HO_9) hb); have n1_ := Aside0.mk (Kd.R_elder' (rr_ HO_10) (Kd.R_base ho0) hb); have n2_ := Aside0.mk (Kd.R_lower (Kd.R_new' ho0 (Kd.R_lt (rr_ HO_10))) (below_size (bs_ HB GE438.out))); have n3_ := Aside0.mk (Kd.R_lower ho1 (below_size (bs_ HB GE438.out))); have n4_ := Aside0.mk (blk_below (g := gb438) (o := .cells #[.slice A0_0 l0_0.length c0_0, .slice A0_1 l0_1.length c0_1] 25 (0, 0)) (kk_ BK438) hb); have n5_ := Aside0.mk (below_step (bs_ HB GE438.out) hb); clear HO_9; clear HO_10; clear BK438; clear HB; have HO_9 := n0_; have HO_10 := n1_; have HO443 := n2_; have HO446 := n3_; have BK438 := n4_; have HB := n5_; clear n0_ n1_ n2_ n3_ n4_ n5_; (try clear hb); (try clear hb2); (try clear hk); (try clear hi); (try clear ho0); (try clear ho1); have hcz32_0 : w31.cell? ⟨gb438, 0, none⟩ = some (.slice A0_0 l0_0.length c0_0) := (blk_cell BK438.out 0).trans rfl; have hcz32_1 : w31.cell? ⟨gb438, 1, none⟩ = some (.slice A0_1 l0_1.length c0_1) := (blk_cell BK438.out 1).trans rfl; have hfz32_0 := blk_frozen BK438.out 0; have hfz32_1 := blk_frozen BK438.out 1) | ((with_reducible refine gate_callee (f := 13) rfl ?_); refine gl_ (some 85) Try.func13 #[.agg #[.slice A0_0 l0_0.length c0_0, .slice A0_1 l0_1.length c0_1], .slice A1 l1.length c1, .int .i64 (wrap64 ((wrap64 (1 + (Int.tmod (wrap64 (a2)) 36524))) - 1)), .slice Ao30 x9_1.length co30] ?_; (with_reducible refine (chain_Run.calls _ _ l0_0 _ _ l0_1 _ _ l1 (wrap64 ((wrap64 (1 + (Int.tmod (wrap64 (a2)) 36524))) - 1)) _ _ x9_1 t448 t451 t454 _ ?side1 ?side2 ?side3 ?side4 ?side5 ?side6 ?side7 ?side8 A21.out).mono ?_); (case side1 => exact cc_ ((Kd.C_below HR0_0.out HB.out))); (case side2 => exact HC0_0.out); (case side3 => exact cc_ ((Kd.C_below HR0_1.out HB.out))); (case side4 => exact HC0_1.out); (case side5 => exact cc_ ((Kd.C_below HR1.out HB.out))); (case side6 => exact HC1.out); (case side7 => exact cc_ ((Kd.R_reads' HO_9.out).2.2)); (case side8 => exact (Kd.R_reads' HO_9.out).2.1); rintro e w33 ⟨v449, v452, rfl, ho0, ho1, hb⟩; refine ⟨_, rfl, ?_⟩; have n0_ := Aside0.mk (Kd.R_below (rr_ HO_9) hb); have n1_ := Aside0.mk (Kd.R_elder' (rr_ HO_10) (Kd.R_base ho0) hb); have n2_ := Aside0.mk (Kd.R_elder' (rr_ HO443) (Kd.R_base ho0) hb); have n3_ := Aside0.mk (Kd.R_elder' (rr_ HO446) (Kd.R_base ho1) hb); have n4_ := Aside0.mk (Kd.R_lower (Kd.R_new' (Kd.R_new' ho0 (Kd.R_lt (rr_ HO_10))) (Kd.R_lt (rr_ HO443))) (below_size (bs_ HB GE438.out))); have n5_ := Aside0.mk (Kd.R_lower (Kd.R_new' ho1 (Kd.R_lt (rr_ HO446))) (below_size (bs_ HB GE438.out))); have n6_ := Aside0.mk (blk_below (g := gb438) (o := .cells #[.slice A0_0 l0_0.length c0_0, .slice A0_1 l0_1.length c0_1] 25 (0, 0)) (kk_ BK438) hb); have n7_ := Aside0.mk (below_step (bs_ HB GE438.out) hb); clear HO_9; clear HO_10; clear HO443; clear HO446; clear BK438; clear HB; have HO_9 := n0_; have HO_10 := n1_; have HO443 := n2_; have HO446 := n3_; have HO450 := n4_; have HO453 := n5_; have BK438 := n6_; have HB := n7_; clear n0_ n1_ n2_ n3_ n4_ n5_ n6_ n7_; (try clear hb); (try clear hb2); (try clear hk); (try clear hi); (try clear ho0); (try clear ho1); obtain ⟨Ao34, co34, eo34⟩ := Kd.R_slice HO443.out; subst eo34; obtain ⟨Ao35, co35, eo35⟩ := Kd.R_slice HO_10.out; subst eo35) | (go_at_call 17; (with_reducible refine (cohousingref26_SameMoves.calls k1 _ _ t441 _ _ x10_1 true _ ?side1 ?side2 ?side3 ?side4 A25.out).mono ?_); (case side1 => exact cc_ ((Kd.R_reads' HO443.out).2.2)); (case side2 => exact (Kd.R_reads' HO443.out).2.1); (case side3 => exact cc_ ((Kd.R_reads' HO_10.out).2.2)); (case side4 => exact (Kd.R_reads' HO_10.out).2.1); rintro e w' ⟨rfl, ⟨nd, rfl⟩⟩; obtain ⟨Ao36, co36, eo36⟩ := Kd.R_slice HO446.out; subst eo36; obtain ⟨Ao37, co37, eo37⟩ := Kd.R_slice HO450.out; subst eo37; obtain ⟨Ao38, co38, eo38⟩ := Kd.R_slice HO453.out; subst eo38))
           go_ret
           exact ⟨ew_, by repeat (first | (with_reducible first | exact HB.out | apply below_alloc | apply pw_below_drewN | apply below_drew1 | refine below_set ?_ GE438.out) | exact HB.out)⟩
          ·rw [if_neg c28] at H
           have c28b0 : ((t448.length : Int) == 0) = false := beq_eq_false_iff_ne.mpr c28
           have c28b1 : ((t448.length : Int) != 0) = true := bne_iff_ne.mpr c28
           have c28b2 : ¬ (t448 = []) := fun h_ => c28 (by rw [h_]; rfl)
           obtain rfl := Option.some.inj H
           have hcz39_0 : wr.cell? ⟨gb438, 0, none⟩ = some (.slice A0_0 l0_0.length c0_0) := (blk_cell BK438.out 0).trans rfl
           have hcz39_1 : wr.cell? ⟨gb438, 1, none⟩ = some (.slice A0_1 l0_1.length c0_1) := (blk_cell BK438.out 1).trans rfl
           have hfz39_0 := blk_frozen BK438.out 0
           have hfz39_1 := blk_frozen BK438.out 1
           obtain ⟨Ao40, co40, eo40⟩ := Kd.R_slice HO_9.out
           subst eo40
           go_wp2_with (first | ((with_reducible refine gate_callee (f := 13) rfl ?_); refine gl_ (some 75) Try.func13 #[.agg #[.slice A0_0 l0_0.length c0_0, .slice A0_1 l0_1.length c0_1], .slice A1 l1.length c1, .int .i64 (wrap64 (1 + (Int.tmod (wrap64 (a2)) 36524))), .slice Ao40 x9_1.length co40] ?_; (with_reducible refine (chain_Run.calls _ _ l0_0 _ _ l0_1 _ _ l1 (wrap64 (1 + (Int.tmod (wrap64 (a2)) 36524))) _ _ x9_1 t441 t444 t447 _ ?side1 ?side2 ?side3 ?side4 ?side5 ?side6 ?side7 ?side8 A20.out).mono ?_); (case side1 => exact cc_ ((Kd.C_below HR0_0.out HB.out))); (case side2 => exact HC0_0.out); (case side3 => exact cc_ ((Kd.C_below HR0_1.out HB.out))); (case side4 => exact HC0_1.out); (case side5 => exact cc_ ((Kd.C_below HR1.out HB.out))); (case side6 => exact HC1.out); (case side7 => exact cc_ ((Kd.R_reads' HO_9.out).2.2)); (case side8 => exact (Kd.R_reads' HO_9.out).2.1); rintro e w41 ⟨v442, v445, rfl, ho0, ho1, hb⟩; refine ⟨_, rfl, ?_⟩; have n0_ := Aside0.mk (Kd.R_below (rr_ HO_9) hb); have n1_ := Aside0.mk (Kd.R_elder' (rr_ HO_10) (Kd.R_base ho0) hb); have n2_ := Aside0.mk (Kd.R_lower (Kd.R_new' ho0 (Kd.R_lt (rr_ HO_10))) (below_size (bs_ HB GE438.out))); have n3_ := Aside0.mk (Kd.R_lower ho1 (below_size (bs_ HB GE438.out))); have n4_ := Aside0.mk (blk_below (g := gb438) (o := .cells #[.slice A0_0 l0_0.length c0_0, .slice A0_1 l0_1.length c0_1] 25 (0, 0)) (kk_ BK438) hb); have n5_ := Aside0.mk (below_step (bs_ HB GE438.out) hb); clear HO_9; clear HO_10; clear BK438; clear HB; have HO_9 := n0_; have HO_10 := n1_; have HO443 := n2_; have HO446 := n3_; have BK438 := n4_; have HB := n5_; clear n0_ n1_ n2_ n3_ n4_ n5_; (try clear hb); (try clear hb2); (try clear hk); (try clear hi); (try clear ho0); (try clear ho1); have hcz42_0 : w41.cell? ⟨gb438, 0, none⟩ = some (.slice A0_0 l0_0.length c0_0) := (blk_cell BK438.out 0).trans rfl; have hcz42_1 : w41.cell? ⟨gb438, 1, none⟩ = some (.slice A0_1 l0_1.length c0_1) := (blk_cell BK438.out 1).trans rfl; have hfz42_0 := blk_frozen BK438.out 0; have hfz42_1 := blk_frozen BK438.out 1) | ((with_reducible refine gate_callee (f := 13) rfl ?_); refine gl_ (some 85) Try.func13 #[.agg #[.slice A0_0 l0_0.length c0_0, .slice A0_1 l0_1.length c0_1], .slice A1 l1.length c1, .int .i64 (wrap64 ((wrap64 (1 + (Int.tmod (wrap64 (a2)) 36524))) - 1)), .slice Ao40 x9_1.length co40] ?_; (with_reducible refine (chain_Run.calls _ _ l0_0 _ _ l0_1 _ _ l1 (wrap64 ((wrap64 (1 + (Int.tmod (wrap64 (a2)) 36524))) - 1)) _ _ x9_1 t448 t451 t454 _ ?side1 ?side2 ?side3 ?side4 ?side5 ?side6 ?side7 ?side8 A21.out).mono ?_); (case side1 => exact cc_ ((Kd.C_below HR0_0.out HB.out))); (case side2 => exact HC0_0.out); (case side3 => exact cc_ ((Kd.C_below HR0_1.out HB.out))); (case side4 => exact HC0_1.out); (case side5 => exact cc_ ((Kd.C_below HR1.out HB.out))); (case side6 => exact HC1.out); (case side7 => exact cc_ ((Kd.R_reads' HO_9.out).2.2)); (case side8 => exact (Kd.R_reads' HO_9.out).2.1); rintro e w43 ⟨v449, v452, rfl, ho0, ho1, hb⟩; refine ⟨_, rfl, ?_⟩; have n0_ := Aside0.mk (Kd.R_below (rr_ HO_9) hb); have n1_ := Aside0.mk (Kd.R_elder' (rr_ HO_10) (Kd.R_base ho0) hb); have n2_ := Aside0.mk (Kd.R_elder' (rr_ HO443) (Kd.R_base ho0) hb); have n3_ := Aside0.mk (Kd.R_elder' (rr_ HO446) (Kd.R_base ho1) hb); have n4_ := Aside0.mk (Kd.R_lower (Kd.R_new' (Kd.R_new' ho0 (Kd.R_lt (rr_ HO_10))) (Kd.R_lt (rr_ HO443))) (below_size (bs_ HB GE438.out))); have n5_ := Aside0.mk (Kd.R_lower (Kd.R_new' ho1 (Kd.R_lt (rr_ HO446))) (below_size (bs_ HB GE438.out))); have n6_ := Aside0.mk (blk_below (g := gb438) (o := .cells #[.slice A0_0 l0_0.length c0_0, .slice A0_1 l0_1.length c0_1] 25 (0, 0)) (kk_ BK438) hb); have n7_ := Aside0.mk (below_step (bs_ HB GE438.out) hb); clear HO_9; clear HO_10; clear HO443; clear HO446; clear BK438; clear HB; have HO_9 := n0_; have HO_10 := n1_; have HO443 := n2_; have HO446 := n3_; have HO450 := n4_; have HO453 := n5_; have BK438 := n6_; have HB := n7_; clear n0_ n1_ n2_ n3_ n4_ n5_ n6_ n7_; (try clear hb); (try clear hb2); (try clear hk); (try clear hi); (try clear ho0); (try clear ho1); obtain ⟨Ao44, co44, eo44⟩ := Kd.R_slice HO443.out; subst eo44; obtain ⟨Ao45, co45, eo45⟩ := Kd.R_slice HO_10.out; subst eo45) | (go_at_call 17; (with_reducible refine (cohousingref26_SameMoves.calls k1 _ _ t441 _ _ x10_1 true _ ?side1 ?side2 ?side3 ?side4 A25.out).mono ?_); (case side1 => exact cc_ ((Kd.R_reads' HO443.out).2.2)); (case side2 => exact (Kd.R_reads' HO443.out).2.1); (case side3 => exact cc_ ((Kd.R_reads' HO_10.out).2.2)); (case side4 => exact (Kd.R_reads' HO_10.out).2.1); rintro e w' ⟨rfl, ⟨nd, rfl⟩⟩; obtain ⟨Ao46, co46, eo46⟩ := Kd.R_slice HO446.out; subst eo46; obtain ⟨Ao47, co47, eo47⟩ := Kd.R_slice HO450.out; subst eo47))
           go_ret
           exact ⟨ew_, by repeat (first | (with_reducible first | exact HB.out | apply below_alloc | apply pw_below_drewN | apply below_drew1 | refine below_set ?_ GE438.out) | exact HB.out)⟩
         ·rw [if_neg c27] at H
          have c27b0 : ((t444.length : Int) == 0) = false := beq_eq_false_iff_ne.mpr c27
          have c27b1 : ((t444.length : Int) != 0) = true := bne_iff_ne.mpr c27
          have c27b2 : ¬ (t444 = []) := fun h_ => c27 (by rw [h_]; rfl)
          obtain rfl := Option.some.inj H
          have hcz48_0 : wr.cell? ⟨gb438, 0, none⟩ = some (.slice A0_0 l0_0.length c0_0) := (blk_cell BK438.out 0).trans rfl
          have hcz48_1 : wr.cell? ⟨gb438, 1, none⟩ = some (.slice A0_1 l0_1.length c0_1) := (blk_cell BK438.out 1).trans rfl
          have hfz48_0 := blk_frozen BK438.out 0
          have hfz48_1 := blk_frozen BK438.out 1
          obtain ⟨Ao49, co49, eo49⟩ := Kd.R_slice HO_9.out
          subst eo49
          go_wp2_with (first | ((with_reducible refine gate_callee (f := 13) rfl ?_); refine gl_ (some 75) Try.func13 #[.agg #[.slice A0_0 l0_0.length c0_0, .slice A0_1 l0_1.length c0_1], .slice A1 l1.length c1, .int .i64 (wrap64 (1 + (Int.tmod (wrap64 (a2)) 36524))), .slice Ao49 x9_1.length co49] ?_; (with_reducible refine (chain_Run.calls _ _ l0_0 _ _ l0_1 _ _ l1 (wrap64 (1 + (Int.tmod (wrap64 (a2)) 36524))) _ _ x9_1 t441 t444 t447 _ ?side1 ?side2 ?side3 ?side4 ?side5 ?side6 ?side7 ?side8 A20.out).mono ?_); (case side1 => exact cc_ ((Kd.C_below HR0_0.out HB.out))); (case side2 => exact HC0_0.out); (case side3 => exact cc_ ((Kd.C_below HR0_1.out HB.out))); (case side4 => exact HC0_1.out); (case side5 => exact cc_ ((Kd.C_below HR1.out HB.out))); (case side6 => exact HC1.out); (case side7 => exact cc_ ((Kd.R_reads' HO_9.out).2.2)); (case side8 => exact (Kd.R_reads' HO_9.out).2.1); rintro e w50 ⟨v442, v445, rfl, ho0, ho1, hb⟩; refine ⟨_, rfl, ?_⟩; have n0_ := Aside0.mk (Kd.R_below (rr_ HO_9) hb); have n1_ := Aside0.mk (Kd.R_elder' (rr_ HO_10) (Kd.R_base ho0) hb); have n2_ := Aside0.mk (Kd.R_lower (Kd.R_new' ho0 (Kd.R_lt (rr_ HO_10))) (below_size (bs_ HB GE438.out))); have n3_ := Aside0.mk (Kd.R_lower ho1 (below_size (bs_ HB GE438.out))); have n4_ := Aside0.mk (blk_below (g := gb438) (o := .cells #[.slice A0_0 l0_0.length c0_0, .slice A0_1 l0_1.length c0_1] 25 (0, 0)) (kk_ BK438) hb); have n5_ := Aside0.mk (below_step (bs_ HB GE438.out) hb); clear HO_9; clear HO_10; clear BK438; clear HB; have HO_9 := n0_; have HO_10 := n1_; have HO443 := n2_; have HO446 := n3_; have BK438 := n4_; have HB := n5_; clear n0_ n1_ n2_ n3_ n4_ n5_; (try clear hb); (try clear hb2); (try clear hk); (try clear hi); (try clear ho0); (try clear ho1); have hcz51_0 : w50.cell? ⟨gb438, 0, none⟩ = some (.slice A0_0 l0_0.length c0_0) := (blk_cell BK438.out 0).trans rfl; have hcz51_1 : w50.cell? ⟨gb438, 1, none⟩ = some (.slice A0_1 l0_1.length c0_1) := (blk_cell BK438.out 1).trans rfl; have hfz51_0 := blk_frozen BK438.out 0; have hfz51_1 := blk_frozen BK438.out 1) | ((with_reducible refine gate_callee (f := 13) rfl ?_); refine gl_ (some 85) Try.func13 #[.agg #[.slice A0_0 l0_0.length c0_0, .slice A0_1 l0_1.length c0_1], .slice A1 l1.length c1, .int .i64 (wrap64 ((wrap64 (1 + (Int.tmod (wrap64 (a2)) 36524))) - 1)), .slice Ao49 x9_1.length co49] ?_; (with_reducible refine (chain_Run.calls _ _ l0_0 _ _ l0_1 _ _ l1 (wrap64 ((wrap64 (1 + (Int.tmod (wrap64 (a2)) 36524))) - 1)) _ _ x9_1 t448 t451 t454 _ ?side1 ?side2 ?side3 ?side4 ?side5 ?side6 ?side7 ?side8 A21.out).mono ?_); (case side1 => exact cc_ ((Kd.C_below HR0_0.out HB.out))); (case side2 => exact HC0_0.out); (case side3 => exact cc_ ((Kd.C_below HR0_1.out HB.out))); (case side4 => exact HC0_1.out); (case side5 => exact cc_ ((Kd.C_below HR1.out HB.out))); (case side6 => exact HC1.out); (case side7 => exact cc_ ((Kd.R_reads' HO_9.out).2.2)); (case side8 => exact (Kd.R_reads' HO_9.out).2.1); rintro e w52 ⟨v449, v452, rfl, ho0, ho1, hb⟩; refine ⟨_, rfl, ?_⟩; have n0_ := Aside0.mk (Kd.R_below (rr_ HO_9) hb); have n1_ := Aside0.mk (Kd.R_elder' (rr_ HO_10) (Kd.R_base ho0) hb); have n2_ := Aside0.mk (Kd.R_elder' (rr_ HO443) (Kd.R_base ho0) hb); have n3_ := Aside0.mk (Kd.R_elder' (rr_ HO446) (Kd.R_base ho1) hb); have n4_ := Aside0.mk (Kd.R_lower (Kd.R_new' (Kd.R_new' ho0 (Kd.R_lt (rr_ HO_10))) (Kd.R_lt (rr_ HO443))) (below_size (bs_ HB GE438.out))); have n5_ := Aside0.mk (Kd.R_lower (Kd.R_new' ho1 (Kd.R_lt (rr_ HO446))) (below_size (bs_ HB GE438.out))); have n6_ := Aside0.mk (blk_below (g := gb438) (o := .cells #[.slice A0_0 l0_0.length c0_0, .slice A0_1 l0_1.length c0_1] 25 (0, 0)) (kk_ BK438) hb); have n7_ := Aside0.mk (below_step (bs_ HB GE438.out) hb); clear HO_9; clear HO_10; clear HO443; clear HO446; clear BK438; clear HB; have HO_9 := n0_; have HO_10 := n1_; have HO443 := n2_; have HO446 := n3_; have HO450 := n4_; have HO453 := n5_; have BK438 := n6_; have HB := n7_; clear n0_ n1_ n2_ n3_ n4_ n5_ n6_ n7_; (try clear hb); (try clear hb2); (try clear hk); (try clear hi); (try clear ho0); (try clear ho1); obtain ⟨Ao53, co53, eo53⟩ := Kd.R_slice HO443.out; subst eo53; obtain ⟨Ao54, co54, eo54⟩ := Kd.R_slice HO_10.out; subst eo54) | (go_at_call 17; (with_reducible refine (cohousingref26_SameMoves.calls k1 _ _ t441 _ _ x10_1 true _ ?side1 ?side2 ?side3 ?side4 A25.out).mono ?_); (case side1 => exact cc_ ((Kd.R_reads' HO443.out).2.2)); (case side2 => exact (Kd.R_reads' HO443.out).2.1); (case side3 => exact cc_ ((Kd.R_reads' HO_10.out).2.2)); (case side4 => exact (Kd.R_reads' HO_10.out).2.1); rintro e w' ⟨rfl, ⟨nd, rfl⟩⟩; obtain ⟨Ao55, co55, eo55⟩ := Kd.R_slice HO446.out; subst eo55))
          go_ret
          exact ⟨ew_, by repeat (first | (with_reducible first | exact HB.out | apply below_alloc | apply pw_below_drewN | apply below_drew1 | refine below_set ?_ GE438.out) | exact HB.out)⟩
        ·replace c26 := Bool.eq_false_iff.mpr c26
         subst c26
         have H1 : (some false) = some r := by rw [if_neg (show ¬ (false = true) by decide)] at H; exact H
         clear H
         have H := H1
         clear H1
         obtain rfl := Option.some.inj H
         have hcz56_0 : wr.cell? ⟨gb438, 0, none⟩ = some (.slice A0_0 l0_0.length c0_0) := (blk_cell BK438.out 0).trans rfl
         have hcz56_1 : wr.cell? ⟨gb438, 1, none⟩ = some (.slice A0_1 l0_1.length c0_1) := (blk_cell BK438.out 1).trans rfl
         have hfz56_0 := blk_frozen BK438.out 0
         have hfz56_1 := blk_frozen BK438.out 1
         obtain ⟨Ao57, co57, eo57⟩ := Kd.R_slice HO_9.out
         subst eo57
         go_wp2_with (first | ((with_reducible refine gate_callee (f := 13) rfl ?_); refine gl_ (some 75) Try.func13 #[.agg #[.slice A0_0 l0_0.length c0_0, .slice A0_1 l0_1.length c0_1], .slice A1 l1.length c1, .int .i64 (wrap64 (1 + (Int.tmod (wrap64 (a2)) 36524))), .slice Ao57 x9_1.length co57] ?_; (with_reducible refine (chain_Run.calls _ _ l0_0 _ _ l0_1 _ _ l1 (wrap64 (1 + (Int.tmod (wrap64 (a2)) 36524))) _ _ x9_1 t441 t444 t447 _ ?side1 ?side2 ?side3 ?side4 ?side5 ?side6 ?side7 ?side8 A20.out).mono ?_); (case side1 => exact cc_ ((Kd.C_below HR0_0.out HB.out))); (case side2 => exact HC0_0.out); (case side3 => exact cc_ ((Kd.C_below HR0_1.out HB.out))); (case side4 => exact HC0_1.out); (case side5 => exact cc_ ((Kd.C_below HR1.out HB.out))); (case side6 => exact HC1.out); (case side7 => exact cc_ ((Kd.R_reads' HO_9.out).2.2)); (case side8 => exact (Kd.R_reads' HO_9.out).2.1); rintro e w58 ⟨v442, v445, rfl, ho0, ho1, hb⟩; refine ⟨_, rfl, ?_⟩; have n0_ := Aside0.mk (Kd.R_below (rr_ HO_9) hb); have n1_ := Aside0.mk (Kd.R_elder' (rr_ HO_10) (Kd.R_base ho0) hb); have n2_ := Aside0.mk (Kd.R_lower (Kd.R_new' ho0 (Kd.R_lt (rr_ HO_10))) (below_size (bs_ HB GE438.out))); have n3_ := Aside0.mk (Kd.R_lower ho1 (below_size (bs_ HB GE438.out))); have n4_ := Aside0.mk (blk_below (g := gb438) (o := .cells #[.slice A0_0 l0_0.length c0_0, .slice A0_1 l0_1.length c0_1] 25 (0, 0)) (kk_ BK438) hb); have n5_ := Aside0.mk (below_step (bs_ HB GE438.out) hb); clear HO_9; clear HO_10; clear BK438; clear HB; have HO_9 := n0_; have HO_10 := n1_; have HO443 := n2_; have HO446 := n3_; have BK438 := n4_; have HB := n5_; clear n0_ n1_ n2_ n3_ n4_ n5_; (try clear hb); (try clear hb2); (try clear hk); (try clear hi); (try clear ho0); (try clear ho1); have hcz59_0 : w58.cell? ⟨gb438, 0, none⟩ = some (.slice A0_0 l0_0.length c0_0) := (blk_cell BK438.out 0).trans rfl; have hcz59_1 : w58.cell? ⟨gb438, 1, none⟩ = some (.slice A0_1 l0_1.length c0_1) := (blk_cell BK438.out 1).trans rfl; have hfz59_0 := blk_frozen BK438.out 0; have hfz59_1 := blk_frozen BK438.out 1) | ((with_reducible refine gate_callee (f := 13) rfl ?_); refine gl_ (some 85) Try.func13 #[.agg #[.slice A0_0 l0_0.length c0_0, .slice A0_1 l0_1.length c0_1], .slice A1 l1.length c1, .int .i64 (wrap64 ((wrap64 (1 + (Int.tmod (wrap64 (a2)) 36524))) - 1)), .slice Ao57 x9_1.length co57] ?_; (with_reducible refine (chain_Run.calls _ _ l0_0 _ _ l0_1 _ _ l1 (wrap64 ((wrap64 (1 + (Int.tmod (wrap64 (a2)) 36524))) - 1)) _ _ x9_1 t448 t451 t454 _ ?side1 ?side2 ?side3 ?side4 ?side5 ?side6 ?side7 ?side8 A21.out).mono ?_); (case side1 => exact cc_ ((Kd.C_below HR0_0.out HB.out))); (case side2 => exact HC0_0.out); (case side3 => exact cc_ ((Kd.C_below HR0_1.out HB.out))); (case side4 => exact HC0_1.out); (case side5 => exact cc_ ((Kd.C_below HR1.out HB.out))); (case side6 => exact HC1.out); (case side7 => exact cc_ ((Kd.R_reads' HO_9.out).2.2)); (case side8 => exact (Kd.R_reads' HO_9.out).2.1); rintro e w60 ⟨v449, v452, rfl, ho0, ho1, hb⟩; refine ⟨_, rfl, ?_⟩; have n0_ := Aside0.mk (Kd.R_below (rr_ HO_9) hb); have n1_ := Aside0.mk (Kd.R_elder' (rr_ HO_10) (Kd.R_base ho0) hb); have n2_ := Aside0.mk (Kd.R_elder' (rr_ HO443) (Kd.R_base ho0) hb); have n3_ := Aside0.mk (Kd.R_elder' (rr_ HO446) (Kd.R_base ho1) hb); have n4_ := Aside0.mk (Kd.R_lower (Kd.R_new' (Kd.R_new' ho0 (Kd.R_lt (rr_ HO_10))) (Kd.R_lt (rr_ HO443))) (below_size (bs_ HB GE438.out))); have n5_ := Aside0.mk (Kd.R_lower (Kd.R_new' ho1 (Kd.R_lt (rr_ HO446))) (below_size (bs_ HB GE438.out))); have n6_ := Aside0.mk (blk_below (g := gb438) (o := .cells #[.slice A0_0 l0_0.length c0_0, .slice A0_1 l0_1.length c0_1] 25 (0, 0)) (kk_ BK438) hb); have n7_ := Aside0.mk (below_step (bs_ HB GE438.out) hb); clear HO_9; clear HO_10; clear HO443; clear HO446; clear BK438; clear HB; have HO_9 := n0_; have HO_10 := n1_; have HO443 := n2_; have HO446 := n3_; have HO450 := n4_; have HO453 := n5_; have BK438 := n6_; have HB := n7_; clear n0_ n1_ n2_ n3_ n4_ n5_ n6_ n7_; (try clear hb); (try clear hb2); (try clear hk); (try clear hi); (try clear ho0); (try clear ho1); obtain ⟨Ao61, co61, eo61⟩ := Kd.R_slice HO443.out; subst eo61; obtain ⟨Ao62, co62, eo62⟩ := Kd.R_slice HO_10.out; subst eo62) | (go_at_call 17; (with_reducible refine (cohousingref26_SameMoves.calls k1 _ _ t441 _ _ x10_1 false _ ?side1 ?side2 ?side3 ?side4 A25.out).mono ?_); (case side1 => exact cc_ ((Kd.R_reads' HO443.out).2.2)); (case side2 => exact (Kd.R_reads' HO443.out).2.1); (case side3 => exact cc_ ((Kd.R_reads' HO_10.out).2.2)); (case side4 => exact (Kd.R_reads' HO_10.out).2.1); rintro e w' ⟨rfl, ⟨nd, rfl⟩⟩))
         go_ret
         exact ⟨ew_, by repeat (first | (with_reducible first | exact HB.out | apply below_alloc | apply pw_below_drewN | apply below_drew1 | refine below_set ?_ GE438.out) | exact HB.out)⟩
       ·rw [if_neg c24] at H
        have c24b0 : (t454 == 0) = false := beq_eq_false_iff_ne.mpr c24
        have c24b1 : (t454 != 0) = true := bne_iff_ne.mpr c24
        obtain rfl := Option.some.inj H
        have hcz63_0 : wr.cell? ⟨gb438, 0, none⟩ = some (.slice A0_0 l0_0.length c0_0) := (blk_cell BK438.out 0).trans rfl
        have hcz63_1 : wr.cell? ⟨gb438, 1, none⟩ = some (.slice A0_1 l0_1.length c0_1) := (blk_cell BK438.out 1).trans rfl
        have hfz63_0 := blk_frozen BK438.out 0
        have hfz63_1 := blk_frozen BK438.out 1
        obtain ⟨Ao64, co64, eo64⟩ := Kd.R_slice HO_9.out
        subst eo64
        go_wp2_with (first | ((with_reducible refine gate_callee (f := 13) rfl ?_); refine gl_ (some 75) Try.func13 #[.agg #[.slice A0_0 l0_0.length c0_0, .slice A0_1 l0_1.length c0_1], .slice A1 l1.length c1, .int .i64 (wrap64 (1 + (Int.tmod (wrap64 (a2)) 36524))), .slice Ao64 x9_1.length co64] ?_; (with_reducible refine (chain_Run.calls _ _ l0_0 _ _ l0_1 _ _ l1 (wrap64 (1 + (Int.tmod (wrap64 (a2)) 36524))) _ _ x9_1 t441 t444 t447 _ ?side1 ?side2 ?side3 ?side4 ?side5 ?side6 ?side7 ?side8 A20.out).mono ?_); (case side1 => exact cc_ ((Kd.C_below HR0_0.out HB.out))); (case side2 => exact HC0_0.out); (case side3 => exact cc_ ((Kd.C_below HR0_1.out HB.out))); (case side4 => exact HC0_1.out); (case side5 => exact cc_ ((Kd.C_below HR1.out HB.out))); (case side6 => exact HC1.out); (case side7 => exact cc_ ((Kd.R_reads' HO_9.out).2.2)); (case side8 => exact (Kd.R_reads' HO_9.out).2.1); rintro e w65 ⟨v442, v445, rfl, ho0, ho1, hb⟩; refine ⟨_, rfl, ?_⟩; have n0_ := Aside0.mk (Kd.R_below (rr_ HO_9) hb); have n1_ := Aside0.mk (Kd.R_elder' (rr_ HO_10) (Kd.R_base ho0) hb); have n2_ := Aside0.mk (Kd.R_lower (Kd.R_new' ho0 (Kd.R_lt (rr_ HO_10))) (below_size (bs_ HB GE438.out))); have n3_ := Aside0.mk (Kd.R_lower ho1 (below_size (bs_ HB GE438.out))); have n4_ := Aside0.mk (blk_below (g := gb438) (o := .cells #[.slice A0_0 l0_0.length c0_0, .slice A0_1 l0_1.length c0_1] 25 (0, 0)) (kk_ BK438) hb); have n5_ := Aside0.mk (below_step (bs_ HB GE438.out) hb); clear HO_9; clear HO_10; clear BK438; clear HB; have HO_9 := n0_; have HO_10 := n1_; have HO443 := n2_; have HO446 := n3_; have BK438 := n4_; have HB := n5_; clear n0_ n1_ n2_ n3_ n4_ n5_; (try clear hb); (try clear hb2); (try clear hk); (try clear hi); (try clear ho0); (try clear ho1); have hcz66_0 : w65.cell? ⟨gb438, 0, none⟩ = some (.slice A0_0 l0_0.length c0_0) := (blk_cell BK438.out 0).trans rfl; have hcz66_1 : w65.cell? ⟨gb438, 1, none⟩ = some (.slice A0_1 l0_1.length c0_1) := (blk_cell BK438.out 1).trans rfl; have hfz66_0 := blk_frozen BK438.out 0; have hfz66_1 := blk_frozen BK438.out 1) | ((with_reducible refine gate_callee (f := 13) rfl ?_); refine gl_ (some 85) Try.func13 #[.agg #[.slice A0_0 l0_0.length c0_0, .slice A0_1 l0_1.length c0_1], .slice A1 l1.length c1, .int .i64 (wrap64 ((wrap64 (1 + (Int.tmod (wrap64 (a2)) 36524))) - 1)), .slice Ao64 x9_1.length co64] ?_; (with_reducible refine (chain_Run.calls _ _ l0_0 _ _ l0_1 _ _ l1 (wrap64 ((wrap64 (1 + (Int.tmod (wrap64 (a2)) 36524))) - 1)) _ _ x9_1 t448 t451 t454 _ ?side1 ?side2 ?side3 ?side4 ?side5 ?side6 ?side7 ?side8 A21.out).mono ?_); (case side1 => exact cc_ ((Kd.C_below HR0_0.out HB.out))); (case side2 => exact HC0_0.out); (case side3 => exact cc_ ((Kd.C_below HR0_1.out HB.out))); (case side4 => exact HC0_1.out); (case side5 => exact cc_ ((Kd.C_below HR1.out HB.out))); (case side6 => exact HC1.out); (case side7 => exact cc_ ((Kd.R_reads' HO_9.out).2.2)); (case side8 => exact (Kd.R_reads' HO_9.out).2.1); rintro e w67 ⟨v449, v452, rfl, ho0, ho1, hb⟩; refine ⟨_, rfl, ?_⟩; have n0_ := Aside0.mk (Kd.R_below (rr_ HO_9) hb); have n1_ := Aside0.mk (Kd.R_elder' (rr_ HO_10) (Kd.R_base ho0) hb); have n2_ := Aside0.mk (Kd.R_elder' (rr_ HO443) (Kd.R_base ho0) hb); have n3_ := Aside0.mk (Kd.R_elder' (rr_ HO446) (Kd.R_base ho1) hb); have n4_ := Aside0.mk (Kd.R_lower (Kd.R_new' (Kd.R_new' ho0 (Kd.R_lt (rr_ HO_10))) (Kd.R_lt (rr_ HO443))) (below_size (bs_ HB GE438.out))); have n5_ := Aside0.mk (Kd.R_lower (Kd.R_new' ho1 (Kd.R_lt (rr_ HO446))) (below_size (bs_ HB GE438.out))); have n6_ := Aside0.mk (blk_below (g := gb438) (o := .cells #[.slice A0_0 l0_0.length c0_0, .slice A0_1 l0_1.length c0_1] 25 (0, 0)) (kk_ BK438) hb); have n7_ := Aside0.mk (below_step (bs_ HB GE438.out) hb); clear HO_9; clear HO_10; clear HO443; clear HO446; clear BK438; clear HB; have HO_9 := n0_; have HO_10 := n1_; have HO443 := n2_; have HO446 := n3_; have HO450 := n4_; have HO453 := n5_; have BK438 := n6_; have HB := n7_; clear n0_ n1_ n2_ n3_ n4_ n5_ n6_ n7_; (try clear hb); (try clear hb2); (try clear hk); (try clear hi); (try clear ho0); (try clear ho1)))
        go_ret
        exact ⟨ew_, by repeat (first | (with_reducible first | exact HB.out | apply below_alloc | apply pw_below_drewN | apply below_drew1 | refine below_set ?_ GE438.out) | exact HB.out)⟩
      ·rw [if_neg c23] at H
       have c23b0 : (t447 == 0) = false := beq_eq_false_iff_ne.mpr c23
       have c23b1 : (t447 != 0) = true := bne_iff_ne.mpr c23
       obtain rfl := Option.some.inj H
       have hcz68_0 : wr.cell? ⟨gb438, 0, none⟩ = some (.slice A0_0 l0_0.length c0_0) := (blk_cell BK438.out 0).trans rfl
       have hcz68_1 : wr.cell? ⟨gb438, 1, none⟩ = some (.slice A0_1 l0_1.length c0_1) := (blk_cell BK438.out 1).trans rfl
       have hfz68_0 := blk_frozen BK438.out 0
       have hfz68_1 := blk_frozen BK438.out 1
       obtain ⟨Ao69, co69, eo69⟩ := Kd.R_slice HO_9.out
       subst eo69
       go_wp2_with (first | ((with_reducible refine gate_callee (f := 13) rfl ?_); refine gl_ (some 75) Try.func13 #[.agg #[.slice A0_0 l0_0.length c0_0, .slice A0_1 l0_1.length c0_1], .slice A1 l1.length c1, .int .i64 (wrap64 (1 + (Int.tmod (wrap64 (a2)) 36524))), .slice Ao69 x9_1.length co69] ?_; (with_reducible refine (chain_Run.calls _ _ l0_0 _ _ l0_1 _ _ l1 (wrap64 (1 + (Int.tmod (wrap64 (a2)) 36524))) _ _ x9_1 t441 t444 t447 _ ?side1 ?side2 ?side3 ?side4 ?side5 ?side6 ?side7 ?side8 A20.out).mono ?_); (case side1 => exact cc_ ((Kd.C_below HR0_0.out HB.out))); (case side2 => exact HC0_0.out); (case side3 => exact cc_ ((Kd.C_below HR0_1.out HB.out))); (case side4 => exact HC0_1.out); (case side5 => exact cc_ ((Kd.C_below HR1.out HB.out))); (case side6 => exact HC1.out); (case side7 => exact cc_ ((Kd.R_reads' HO_9.out).2.2)); (case side8 => exact (Kd.R_reads' HO_9.out).2.1); rintro e w70 ⟨v442, v445, rfl, ho0, ho1, hb⟩; refine ⟨_, rfl, ?_⟩; have n0_ := Aside0.mk (Kd.R_below (rr_ HO_9) hb); have n1_ := Aside0.mk (Kd.R_elder' (rr_ HO_10) (Kd.R_base ho0) hb); have n2_ := Aside0.mk (Kd.R_lower (Kd.R_new' ho0 (Kd.R_lt (rr_ HO_10))) (below_size (bs_ HB GE438.out))); have n3_ := Aside0.mk (Kd.R_lower ho1 (below_size (bs_ HB GE438.out))); have n4_ := Aside0.mk (blk_below (g := gb438) (o := .cells #[.slice A0_0 l0_0.length c0_0, .slice A0_1 l0_1.length c0_1] 25 (0, 0)) (kk_ BK438) hb); have n5_ := Aside0.mk (below_step (bs_ HB GE438.out) hb); clear HO_9; clear HO_10; clear BK438; clear HB; have HO_9 := n0_; have HO_10 := n1_; have HO443 := n2_; have HO446 := n3_; have BK438 := n4_; have HB := n5_; clear n0_ n1_ n2_ n3_ n4_ n5_; (try clear hb); (try clear hb2); (try clear hk); (try clear hi); (try clear ho0); (try clear ho1); have hcz71_0 : w70.cell? ⟨gb438, 0, none⟩ = some (.slice A0_0 l0_0.length c0_0) := (blk_cell BK438.out 0).trans rfl; have hcz71_1 : w70.cell? ⟨gb438, 1, none⟩ = some (.slice A0_1 l0_1.length c0_1) := (blk_cell BK438.out 1).trans rfl; have hfz71_0 := blk_frozen BK438.out 0; have hfz71_1 := blk_frozen BK438.out 1) | ((with_reducible refine gate_callee (f := 13) rfl ?_); refine gl_ (some 85) Try.func13 #[.agg #[.slice A0_0 l0_0.length c0_0, .slice A0_1 l0_1.length c0_1], .slice A1 l1.length c1, .int .i64 (wrap64 ((wrap64 (1 + (Int.tmod (wrap64 (a2)) 36524))) - 1)), .slice Ao69 x9_1.length co69] ?_; (with_reducible refine (chain_Run.calls _ _ l0_0 _ _ l0_1 _ _ l1 (wrap64 ((wrap64 (1 + (Int.tmod (wrap64 (a2)) 36524))) - 1)) _ _ x9_1 t448 t451 t454 _ ?side1 ?side2 ?side3 ?side4 ?side5 ?side6 ?side7 ?side8 A21.out).mono ?_); (case side1 => exact cc_ ((Kd.C_below HR0_0.out HB.out))); (case side2 => exact HC0_0.out); (case side3 => exact cc_ ((Kd.C_below HR0_1.out HB.out))); (case side4 => exact HC0_1.out); (case side5 => exact cc_ ((Kd.C_below HR1.out HB.out))); (case side6 => exact HC1.out); (case side7 => exact cc_ ((Kd.R_reads' HO_9.out).2.2)); (case side8 => exact (Kd.R_reads' HO_9.out).2.1); rintro e w72 ⟨v449, v452, rfl, ho0, ho1, hb⟩; refine ⟨_, rfl, ?_⟩; have n0_ := Aside0.mk (Kd.R_below (rr_ HO_9) hb); have n1_ := Aside0.mk (Kd.R_elder' (rr_ HO_10) (Kd.R_base ho0) hb); have n2_ := Aside0.mk (Kd.R_elder' (rr_ HO443) (Kd.R_base ho0) hb); have n3_ := Aside0.mk (Kd.R_elder' (rr_ HO446) (Kd.R_base ho1) hb); have n4_ := Aside0.mk (Kd.R_lower (Kd.R_new' (Kd.R_new' ho0 (Kd.R_lt (rr_ HO_10))) (Kd.R_lt (rr_ HO443))) (below_size (bs_ HB GE438.out))); have n5_ := Aside0.mk (Kd.R_lower (Kd.R_new' ho1 (Kd.R_lt (rr_ HO446))) (below_size (bs_ HB GE438.out))); have n6_ := Aside0.mk (blk_below (g := gb438) (o := .cells #[.slice A0_0 l0_0.length c0_0, .slice A0_1 l0_1.length c0_1] 25 (0, 0)) (kk_ BK438) hb); have n7_ := Aside0.mk (below_step (bs_ HB GE438.out) hb); clear HO_9; clear HO_10; clear HO443; clear HO446; clear BK438; clear HB; have HO_9 := n0_; have HO_10 := n1_; have HO443 := n2_; have HO446 := n3_; have HO450 := n4_; have HO453 := n5_; have BK438 := n6_; have HB := n7_; clear n0_ n1_ n2_ n3_ n4_ n5_ n6_ n7_; (try clear hb); (try clear hb2); (try clear hk); (try clear hi); (try clear ho0); (try clear ho1)))
       go_ret
       exact ⟨ew_, by repeat (first | (with_reducible first | exact HB.out | apply below_alloc | apply pw_below_drewN | apply below_drew1 | refine below_set ?_ GE438.out) | exact HB.out)⟩
     ·replace c22 := Bool.eq_false_iff.mpr c22
      subst c22
      have H1 : (some false) = some r := by rw [if_neg (show ¬ (false = true) by decide)] at H; exact H
      clear H
      have H := H1
      clear H1
      obtain rfl := Option.some.inj H
      have hcz73_0 : wr.cell? ⟨gb438, 0, none⟩ = some (.slice A0_0 l0_0.length c0_0) := (blk_cell BK438.out 0).trans rfl
      have hcz73_1 : wr.cell? ⟨gb438, 1, none⟩ = some (.slice A0_1 l0_1.length c0_1) := (blk_cell BK438.out 1).trans rfl
      have hfz73_0 := blk_frozen BK438.out 0
      have hfz73_1 := blk_frozen BK438.out 1
      obtain ⟨Ao74, co74, eo74⟩ := Kd.R_slice HO_9.out
      subst eo74
      go_wp2_with (first | ((with_reducible refine gate_callee (f := 13) rfl ?_); refine gl_ (some 75) Try.func13 #[.agg #[.slice A0_0 l0_0.length c0_0, .slice A0_1 l0_1.length c0_1], .slice A1 l1.length c1, .int .i64 (wrap64 (1 + (Int.tmod (wrap64 (a2)) 36524))), .slice Ao74 x9_1.length co74] ?_; (with_reducible refine (chain_Run.calls _ _ l0_0 _ _ l0_1 _ _ l1 (wrap64 (1 + (Int.tmod (wrap64 (a2)) 36524))) _ _ x9_1 t441 t444 t447 _ ?side1 ?side2 ?side3 ?side4 ?side5 ?side6 ?side7 ?side8 A20.out).mono ?_); (case side1 => exact cc_ ((Kd.C_below HR0_0.out HB.out))); (case side2 => exact HC0_0.out); (case side3 => exact cc_ ((Kd.C_below HR0_1.out HB.out))); (case side4 => exact HC0_1.out); (case side5 => exact cc_ ((Kd.C_below HR1.out HB.out))); (case side6 => exact HC1.out); (case side7 => exact cc_ ((Kd.R_reads' HO_9.out).2.2)); (case side8 => exact (Kd.R_reads' HO_9.out).2.1); rintro e w75 ⟨v442, v445, rfl, ho0, ho1, hb⟩; refine ⟨_, rfl, ?_⟩; have n0_ := Aside0.mk (Kd.R_below (rr_ HO_9) hb); have n1_ := Aside0.mk (Kd.R_elder' (rr_ HO_10) (Kd.R_base ho0) hb); have n2_ := Aside0.mk (Kd.R_lower (Kd.R_new' ho0 (Kd.R_lt (rr_ HO_10))) (below_size (bs_ HB GE438.out))); have n3_ := Aside0.mk (Kd.R_lower ho1 (below_size (bs_ HB GE438.out))); have n4_ := Aside0.mk (blk_below (g := gb438) (o := .cells #[.slice A0_0 l0_0.length c0_0, .slice A0_1 l0_1.length c0_1] 25 (0, 0)) (kk_ BK438) hb); have n5_ := Aside0.mk (below_step (bs_ HB GE438.out) hb); clear HO_9; clear HO_10; clear BK438; clear HB; have HO_9 := n0_; have HO_10 := n1_; have HO443 := n2_; have HO446 := n3_; have BK438 := n4_; have HB := n5_; clear n0_ n1_ n2_ n3_ n4_ n5_; (try clear hb); (try clear hb2); (try clear hk); (try clear hi); (try clear ho0); (try clear ho1); have hcz76_0 : w75.cell? ⟨gb438, 0, none⟩ = some (.slice A0_0 l0_0.length c0_0) := (blk_cell BK438.out 0).trans rfl; have hcz76_1 : w75.cell? ⟨gb438, 1, none⟩ = some (.slice A0_1 l0_1.length c0_1) := (blk_cell BK438.out 1).trans rfl; have hfz76_0 := blk_frozen BK438.out 0; have hfz76_1 := blk_frozen BK438.out 1) | ((with_reducible refine gate_callee (f := 13) rfl ?_); refine gl_ (some 85) Try.func13 #[.agg #[.slice A0_0 l0_0.length c0_0, .slice A0_1 l0_1.length c0_1], .slice A1 l1.length c1, .int .i64 (wrap64 ((wrap64 (1 + (Int.tmod (wrap64 (a2)) 36524))) - 1)), .slice Ao74 x9_1.length co74] ?_; (with_reducible refine (chain_Run.calls _ _ l0_0 _ _ l0_1 _ _ l1 (wrap64 ((wrap64 (1 + (Int.tmod (wrap64 (a2)) 36524))) - 1)) _ _ x9_1 t448 t451 t454 _ ?side1 ?side2 ?side3 ?side4 ?side5 ?side6 ?side7 ?side8 A21.out).mono ?_); (case side1 => exact cc_ ((Kd.C_below HR0_0.out HB.out))); (case side2 => exact HC0_0.out); (case side3 => exact cc_ ((Kd.C_below HR0_1.out HB.out))); (case side4 => exact HC0_1.out); (case side5 => exact cc_ ((Kd.C_below HR1.out HB.out))); (case side6 => exact HC1.out); (case side7 => exact cc_ ((Kd.R_reads' HO_9.out).2.2)); (case side8 => exact (Kd.R_reads' HO_9.out).2.1); rintro e w77 ⟨v449, v452, rfl, ho0, ho1, hb⟩; refine ⟨_, rfl, ?_⟩; have n0_ := Aside0.mk (Kd.R_below (rr_ HO_9) hb); have n1_ := Aside0.mk (Kd.R_elder' (rr_ HO_10) (Kd.R_base ho0) hb); have n2_ := Aside0.mk (Kd.R_elder' (rr_ HO443) (Kd.R_base ho0) hb); have n3_ := Aside0.mk (Kd.R_elder' (rr_ HO446) (Kd.R_base ho1) hb); have n4_ := Aside0.mk (Kd.R_lower (Kd.R_new' (Kd.R_new' ho0 (Kd.R_lt (rr_ HO_10))) (Kd.R_lt (rr_ HO443))) (below_size (bs_ HB GE438.out))); have n5_ := Aside0.mk (Kd.R_lower (Kd.R_new' ho1 (Kd.R_lt (rr_ HO446))) (below_size (bs_ HB GE438.out))); have n6_ := Aside0.mk (blk_below (g := gb438) (o := .cells #[.slice A0_0 l0_0.length c0_0, .slice A0_1 l0_1.length c0_1] 25 (0, 0)) (kk_ BK438) hb); have n7_ := Aside0.mk (below_step (bs_ HB GE438.out) hb); clear HO_9; clear HO_10; clear HO443; clear HO446; clear BK438; clear HB; have HO_9 := n0_; have HO_10 := n1_; have HO443 := n2_; have HO446 := n3_; have HO450 := n4_; have HO453 := n5_; have BK438 := n6_; have HB := n7_; clear n0_ n1_ n2_ n3_ n4_ n5_ n6_ n7_; (try clear hb); (try clear hb2); (try clear hk); (try clear hi); (try clear ho0); (try clear ho1)))
      go_ret
      exact ⟨ew_, by repeat (first | (with_reducible first | exact HB.out | apply below_alloc | apply pw_below_drewN | apply below_drew1 | refine below_set ?_ GE438.out) | exact HB.out)⟩
 ·replace c6 := Bool.eq_false_iff.mpr c6
  subst c6
  have H1 : (some t439) = some r := by rw [if_neg (show ¬ (false = true) by decide)] at H; exact H
  clear H
  have H := H1
  clear H1
  obtain rfl := Option.some.inj H
  go_enter Try.func6, Try.ntmps6
  go_wp2_with (first | ((with_reducible refine gate_dst (N := 3) rfl ?_); (try (refine gate_guard (by rfl) ?_; dsimp only)); refine box_event ?hg (N := 3) ?hd (cs := #[.slice A0_0 l0_0.length c0_0, .slice A0_1 l0_1.length c0_1]) (t := 25) ?hr ?_; (case hd => rfl); (case hg => rfl); (case hr => first | (go_simp; done) | (go_simp; rfl)); intro gb438 hg w78 hbox hb; have n0_ := Aside0.mk (below_step (bb_ HB) hb); have n1_ := Aside0.mk (hbox); have n2_ := Aside0.mk ((by rw [hg]; exact (below_size (bb_ HB)) : w.heap.size ≤ gb438)); have n3_ := Aside0.mk ((by rw [hg]; exact (below_size (bb_ HB)) : w.heap.size ≤ gb438)); clear HB; have HB := n0_; have BK438 := n1_; have GW438 := n2_; have GE438 := n3_; clear n0_ n1_ n2_ n3_; clear hb hbox hg) | ((with_reducible refine gate_callee (f := 10) rfl ?_); refine gl_ (some 19) Try.func10 #[] ?_; (with_reducible refine (cohousinglaw26_head.calls k  t439 _ A4.out).mono ?_); rintro e w79 ⟨rfl, hb⟩; refine ⟨_, rfl, ?_⟩; have n0_ := Aside0.mk (blk_below (g := gb438) (o := .cells #[.slice A0_0 l0_0.length c0_0, .slice A0_1 l0_1.length c0_1] 25 (0, 0)) (kk_ BK438) hb); have n1_ := Aside0.mk (below_step (bs_ HB GE438.out) hb); clear BK438; clear HB; have BK438 := n0_; have HB := n1_; clear n0_ n1_; (try clear hb); (try clear hb2); (try clear hk); (try clear hi); have hcz80_0 : w79.cell? ⟨gb438, 0, none⟩ = some (.slice A0_0 l0_0.length c0_0) := (blk_cell BK438.out 0).trans rfl; have hcz80_1 : w79.cell? ⟨gb438, 1, none⟩ = some (.slice A0_1 l0_1.length c0_1) := (blk_cell BK438.out 1).trans rfl; have hfz80_0 := blk_frozen BK438.out 0; have hfz80_1 := blk_frozen BK438.out 1) | ((with_reducible refine gate_callee (f := 20) rfl ?_); refine gl_ (some 22) Try.func20 #[.agg #[.slice A0_0 l0_0.length c0_0, .slice A0_1 l0_1.length c0_1], .slice A1 l1.length c1, .slice none 0 0] ?_; (refine (cohousinglaw26_usable.calls k _ _ l0_0 _ _ l0_1 _ _ l1 _ _ ([] : List (S55)) false _ ?side1 ?side2 ?side3 ?side4 ?side5 ?side6 ?side7 ?side8 A5.out).mono ?_); (case side1 => exact cc_ ((Kd.C_below HR0_0.out HB.out))); (case side2 => exact HC0_0.out); (case side3 => exact cc_ ((Kd.C_below HR0_1.out HB.out))); (case side4 => exact HC0_1.out); (case side5 => exact cc_ ((Kd.C_below HR1.out HB.out))); (case side6 => exact HC1.out); (case side7 => exact Kd.C_nil _ _); (case side8 => exact Nat.le_refl _); rintro e w81 ⟨rfl, hb⟩; refine ⟨_, rfl, ?_⟩; have n0_ := Aside0.mk (blk_below (g := gb438) (o := .cells #[.slice A0_0 l0_0.length c0_0, .slice A0_1 l0_1.length c0_1] 25 (0, 0)) (kk_ BK438) hb); have n1_ := Aside0.mk (below_step (bs_ HB GE438.out) hb); clear BK438; clear HB; have BK438 := n0_; have HB := n1_; clear n0_ n1_; (try clear hb); (try clear hb2); (try clear hk); (try clear hi)))
  go_ret
  exact ⟨ew_, by repeat (first | (with_reducible first | exact HB.out | apply below_alloc | apply pw_below_drewN | apply below_drew1 | refine below_set ?_ GE438.out) | exact HB.out)⟩
end
end Go.Proofs.Ytocbiggglnpeoaa.P
end
section
namespace Go.Proofs.Ytocbiggglnpeoaa.P
open Go.RowKit Go.Proofs.YtocbiggglnpeoaaW.PrintWords Go.Proofs.YtocbiggglnpeoaaW.PrintLast Go.Proofs.YtocbiggglnpeoaaW.PrintMore Go.Proofs.YtocbiggglnpeoaaH
open Classical
theorem Told.named {rs : List YT} {due : Int} {r : GT} {n : Nat} {b : Bool} (h : Told rs due r n b) : b = false ↔ ∀ k, k < r.f1.length → agB rs due (mv r.f1 k).f0 = true := by
 cases h with
 | all h => exact ⟨fun _ => h, fun _ => rfl⟩
 | chain n hn _ _ hno => exact ⟨fun h => (by cases h), fun h => (by rw [h n hn] at hno; cases hno)⟩
 | cycle n hn _ hno => exact ⟨fun h => (by cases h), fun h => (by rw [h n hn] at hno; cases hno)⟩
theorem Told.whole {rs : List YT} {due : Int} {r : GT} {n : Nat} {b : Bool} (h : Told rs due r n b) (hb : b = false) : n = r.f1.length := by
 cases h with
 | all _ => rfl
 | chain _ _ _ _ _ => cases hb
 | cycle _ _ _ _ => cases hb
theorem goR_succ (rs : List YT) (due : Int) (l : List GT) (n : Nat) : goR rs due l (n + 1) = goR rs due l n ++ (rg l n).f1.take (nR rs due (rg l n)) := goM_succ _ _ _
theorem mem_ahead (l : List GT) {n m k : Nat} (hn : n < m) (hm : m ≤ l.length) {j : Nat} (hj : j < (rg l n).f1.length) : mv (rg l n).f1 j ∈ ahead l m k := by
 unfold ahead
 refine List.mem_append_left _ (List.mem_flatMap.2 ⟨rg l n, ?_, mv_mem hj⟩)
 rw [rg_get l n (by omega)]
 exact List.mem_iff_getElem.2 ⟨n, by rw [List.length_take]; omega, by rw [List.getElem_take]⟩
section
variable {fl : List FT} {pa : List PT} {l : List GT} (hR : RingsR fl pa l)
include hR
end
end Go.Proofs.Ytocbiggglnpeoaa.P
end
section
namespace Go.Proofs.Ytocbiggglnpeoaa.P
open Go.RowKit Go.Proofs.YtocbiggglnpeoaaW.PrintWords Go.Proofs.YtocbiggglnpeoaaW.PrintLast Go.Proofs.YtocbiggglnpeoaaW.PrintMore Go.Proofs.YtocbiggglnpeoaaH
open Classical
def allY (due : Int) (ms : List MT) : List YT := ms.map (fun x => ⟨1, x.f0, due⟩)
theorem allY_at (due : Int) (ms : List MT) {n : Nat} (hn : n < ms.length) : ry (allY due ms) n = ⟨1, (mv ms n).f0, due⟩ := by
 rw [ry_get _ n (by unfold allY; rw [List.length_map]; exact hn), mv_get ms n hn]
 unfold allY
 rw [List.getElem_map]
theorem allY_len (due : Int) (ms : List MT) : (allY due ms).length = ms.length := by unfold allY; rw [List.length_map]
theorem allY_st (due : Int) (ms : List MT) (h : Int) : ∀ n, n ≤ ms.length → (stA (allY due ms) due h n).2 = false ∧ ((∃ j, j < n ∧ (mv ms j).f0 = h) → (stA (allY due ms) due h n).1 = true) := by
 intro n
 induction n with
 | zero => intro _; exact ⟨rfl, fun ⟨j, hj, _⟩ => absurd hj (Nat.not_lt_zero _)⟩
 | succ n ih =>
  intro hn
  obtain ⟨i1, i2⟩ := ih (by omega)
  rw [stA_succ, allY_at due ms (by omega)]
  by_cases e : (mv ms n).f0 = h
  ·rw [if_pos ⟨Int.le_refl _, e⟩, i1]
   exact ⟨rfl, fun _ => rfl⟩
  ·rw [if_neg (fun hh => e hh.2)]
   refine ⟨i1, fun ⟨j, hj, e2⟩ => i2 ⟨j, ?_, e2⟩⟩
   by_cases hj' : j = n
   ·subst hj'; exact absurd e2 e
   ·omega
theorem allY_no (due d : Int) (hd : d < due) (ms : List MT) (h : Int) : ∀ n, n ≤ ms.length → stA (allY due ms) d h n = (false, false) := by
 intro n
 induction n with
 | zero => intro _; rfl
 | succ n ih =>
  intro hn
  rw [stA_succ, allY_at due ms (by omega), if_neg (fun hh => by have := hh.1; simp only at this; omega)]
  exact ih (by omega)
theorem goR_none {rs : List YT} {due : Int} {l : List GT} (h : ∀ n, n < l.length → 0 < (rg l n).f1.length) (hno : ∀ x, agB rs due x = false) : ∀ n, n ≤ l.length → goR rs due l n = [] ∧ (brR rs due l n).length = n := by
 intro n
 induction n with
 | zero => intro _; exact ⟨rfl, rfl⟩
 | succ n ih =>
  intro hn
  obtain ⟨i1, i2⟩ := ih (by omega)
  have ht := told_ring rs due (rg l n)
  have h0 : nR rs due (rg l n) = 0 := by
   rcases Nat.eq_zero_or_pos (nR rs due (rg l n)) with e | e
   ·exact e
   ·have := ht.yes 0 e
    rw [hno] at this
    cases this
  have hb : bR rs due (rg l n) = true := by
   cases hx : bR rs due (rg l n) with
   | true => rfl
   | false =>
    have := ht.named.1 hx 0 (h n (by omega))
    rw [hno] at this
    cases this
  constructor
  ·rw [goR_succ, i1, h0]; rfl
  ·show (brM _ l (n + 1)).length = n + 1
   rw [brM_succ, if_pos hb, List.length_append]
   have : (brM (repM rs due rs.length) l n).length = n := i2
   rw [this]
   rfl
theorem goR_every {rs : List YT} {due : Int} {l : List GT} (h : ∀ n, n < l.length → ∀ k, k < (rg l n).f1.length → agB rs due (mv (rg l n).f1 k).f0 = true) : ∀ n, n ≤ l.length → goR rs due l n = ahead l n 0 ∧ brR rs due l n = [] := by
 intro n
 induction n with
 | zero => intro _; exact ⟨rfl, rfl⟩
 | succ n ih =>
  intro hn
  obtain ⟨i1, i2⟩ := ih (by omega)
  have ht := told_ring rs due (rg l n)
  have hb := ht.named.2 (h n (by omega))
  have hw : nR rs due (rg l n) = (rg l n).f1.length := ht.whole hb
  constructor
  ·rw [goR_succ, i1, hw, ← ahead_step l (by omega)]
   unfold ahead
   rw [List.take_zero, List.append_nil]
  ·show brM _ l (n + 1) = []
   have hb' : brk (repM rs due rs.length) (rd_T49 l (n : Int)) = false := hb
   rw [brM_succ, if_neg (by rw [hb']; decide)]
   exact i2
theorem ahead_lt (l : List GT) (hR : RB l) {n m : Nat} (hn : n < l.length) (hl : l.length ≤ 20) (hr : (rg l n).f1.length ≤ 30) (hm : m ≤ (rg l n).f1.length) : (ahead l n m).length < 5864062014805 := by
 have hal := ahead_len l hR n (by omega)
 unfold ahead at hal ⊢
 rw [List.length_append, List.length_take] at hal ⊢
 omega
set_option maxHeartbeats 4000000 in
theorem all_ (fl : List FT) (pa : List PT) (l : List GT) (a : Int) (ha : 0 ≤ a ∧ a ≤ 65535) : Ev (fun k => cohousinglaw26_ChainAll.f k fl pa l a) true := by
 unfold cohousinglaw26_ChainAll.f
 refine Ev.bnd head26 ?_
 refine Ev.bnd (usable_f fl pa l []) ?_
 by_cases U : Usable fl pa l []
 case neg =>
  simp only [decide_eq_false U, Bool.false_eq_true, if_false]
  exact Ev.pure _
 simp only [decide_eq_true U, if_true]
 obtain ⟨due, hdue⟩ : ∃ d, d = 1 + a % 36524 := ⟨_, rfl⟩
 have hw : wrap64 (1 + Int.tmod (wrap64 a) 36524) = due := by
  rw [show wrap64 a = a by unfold wrap64; omega, Int.tmod_eq_emod_of_nonneg ha.1, hdue]
  unfold wrap64; omega
 rw [hw]
 have hd1 : 1 ≤ due ∧ due ≤ 36524 := by omega
 have hlr := U.fr.len
 have hahead : (allM l).length ≤ 600 := by
  have key : ∀ n, n ≤ l.length → (ahead l n 0).length ≤ 30 * n := by
   intro n
   induction n with
   | zero => intro _; simp [ahead]
   | succ n ih =>
    intro hn
    have h0 := ih (by omega)
    have h1 := U.fr.m n (by omega)
    rw [← ahead_step l (by omega)]
    unfold ahead at h0 ⊢
    rw [List.length_append, List.length_take] at h0 ⊢
    omega
  have := key l.length (Nat.le_refl _)
  rw [ahead_all] at this
  omega
 have hpos : ∀ n, n < l.length → 0 < (rg l n).f1.length := fun n hn => (U.r.shape n hn).1
 have hmem : ∀ n, n < l.length → ∀ k, k < (rg l n).f1.length → ∃ j, j < (allM l).length ∧ mv (allM l) j = mv (rg l n).f1 k := by
  intro n hn k hk
  have : mv (rg l n).f1 k ∈ allM l := by rw [← ahead_all]; exact mem_ahead l hn (Nat.le_refl _) hk
  obtain ⟨j, hj, e⟩ := List.mem_iff_getElem.1 this
  exact ⟨j, hj, by rw [mv_get _ j hj]; exact e⟩
 have hhome : ∀ x ∈ allM l, 1 ≤ x.f0 ∧ x.f0 ≤ 64 := by
  intro x hx
  obtain ⟨r, hr, hxr⟩ := List.mem_flatMap.1 hx
  obtain ⟨n, hn, e⟩ := List.mem_iff_getElem.1 hr
  obtain ⟨k, hk, e2⟩ := List.mem_iff_getElem.1 hxr
  have hk' : k < (rg l n).f1.length := by rw [rg_get l n hn, e]; exact hk
  obtain ⟨j, _, hj, e3, _, _⟩ := U.r.fit n hn k hk'
  have e4 : mv (rg l n).f1 k = x := by rw [mv_get _ k hk', ← e2]; congr 1; rw [rg_get l n hn, e]
  rw [e4] at e3
  rw [← e3]
  exact U.m.rng j hj
 have hY : RepliesV (allY due (allM l)) := by
  refine ⟨by rw [allY_len]; omega, fun n hn => ?_, fun n h0 hn => ?_⟩
  ·rw [allY_len] at hn
   rw [allY_at due _ hn]
   have := hhome _ (mv_mem hn)
   exact ⟨by simp, by simp, this.1, this.2, by simp; omega, by simp; omega⟩
  ·rw [allY_len] at hn
   rw [allY_at due _ hn, allY_at due _ (by omega)]
   exact Int.le_refl _
 have hyes : ∀ n, n < l.length → ∀ k, k < (rg l n).f1.length → agB (allY due (allM l)) due (mv (rg l n).f1 k).f0 = true := by
  intro n hn k hk
  obtain ⟨j, hj, e⟩ := hmem n hn k hk
  have := allY_st due (allM l) (mv (rg l n).f1 k).f0 (allM l).length (Nat.le_refl _)
  unfold agB
  rw [allY_len, this.1, this.2 ⟨j, hj, by rw [e]⟩]
  rfl
 have hno : ∀ x, agB (allY due (allM l)) (due - 1) x = false := fun x => by
  unfold agB
  rw [allY_len, allY_no due (due - 1) (by omega) (allM l) x _ (Nat.le_refl _)]
  rfl
 obtain ⟨g1, g2⟩ := goR_every hyes l.length (Nat.le_refl _)
 rw [ahead_all] at g1
 obtain ⟨n1, n2⟩ := goR_none hpos hno l.length (Nat.le_refl _)
 have f1 := Run_f (rs := allY due (allM l)) due U.fm U.fr.len U.fr.m hY.len
 rw [runR_ok U.m U.r hY (by omega) (by omega), g1, g2] at f1
 have f2 := Run_f (rs := allY due (allM l)) (due - 1) U.fm U.fr.len U.fr.m hY.len
 rw [runR_ok U.m U.r hY (by omega) (by omega), n1] at f2
 have n2' : ((brR (allY due (allM l)) (due - 1) l l.length).length : Int) = (l.length : Int) := congrArg Int.ofNat n2
 have hw2 : wrap64 (due - 1) = due - 1 := by unfold wrap64; omega
 have key : ∀ n, n ≤ l.length → Ev (fun k => cohousinglaw26_ChainAll.l0 k l true due (allY due (ahead l n 0)) (ahead l n 0) (n : Int) fl pa) true := by
  refine loopUp l.length _ ?_ ?_
  ·have h1 : ¬ (((l.length : Nat) : Int) < (l.length : Int)) := by omega
   refine Ev.step ?_
   rw [ahead_all]
   simp only [cohousinglaw26_ChainAll.l0, h1, if_false, f1, hw2, f2, Option.bind_some, if_true]
   refine Ev.bnd (SameMoves_f (allM l) (allM l) (by omega)) ?_
   simp only [decide_true, if_true, List.length_nil, n2', Int.natCast_zero, beq_self_eq_true]
   exact Ev.pure _
  ·intro n hlt ih
   have h1 : (n : Int) < (l.length : Int) := by omega
   have h2 : (0 : Int) ≤ (n : Int) := by omega
   have hrn := U.fr.m n hlt
   have hsn := wrap_nat (show n ≤ 140737488355328 by omega)
   have loop : ∀ m, m ≤ (rg l n).f1.length → Ev (fun k => cohousinglaw26_ChainAll.l1 k l true due (allY due (ahead l n m)) (ahead l n m) (n : Int) (m : Int) fl pa) true := by
    refine loopUp (rg l n).f1.length _ ?_ ?_
    ·have c1 : ¬ ((((rg l n).f1.length : Nat) : Int) < ((rg l n).f1.length : Int)) := by omega
     refine Ev.step ?_
     simp only [cohousinglaw26_ChainAll.l1, h1, h2, c1, if_true, if_false, hsn]
     rw [ahead_step l hlt]
     exact ih
    ·intro m hm ihm
     have c1 : (m : Int) < ((rg l n).f1.length : Int) := by omega
     have c2 : (0 : Int) ≤ (m : Int) := by omega
     have hlm : (ahead l n m).length < 5864062014805 := ahead_lt l U.fr.rb hlt hlr hrn (Nat.le_of_lt hm)
     have hlm2 : (allY due (ahead l n m)).length < 5864062014805 := by rw [allY_len]; exact hlm
     rw [ahead_snoc l hm] at ihm
     refine Ev.step ?_
     simp only [cohousinglaw26_ChainAll.l1, h1, h2, c1, c2, hlm, hlm2, if_true, wrap_nat (show m ≤ 140737488355328 by omega)]
     have e : allY due (ahead l n m ++ [mv (rg l n).f1 m]) = allY due (ahead l n m) ++ [⟨1, (mv (rg l n).f1 m).f0, due⟩] := by unfold allY; rw [List.map_append]; rfl
     rw [e] at ihm
     exact ihm
   refine Ev.step ?_
   simp only [cohousinglaw26_ChainAll.l0, h1, if_true]
   exact loop 0 (by omega)
 exact key 0 (by omega)
end Go.Proofs.Ytocbiggglnpeoaa.P
end
