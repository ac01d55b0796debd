/- Part 1 of the proof of ChargesNarrower: what it alone needs. -/
import Derived.Test.YtbgchacafglcpaaCNc
set_option linter.unusedVariables false
set_option linter.unusedSimpArgs false
section
namespace Go.Proofs.Ytbgchacafglcpaa.P
open Go.RowKit Go.Proofs.YtbgchacafglcpaaW.PrintWords Go.Proofs.YtbgchacafglcpaaW.PrintLast Go.Proofs.YtbgchacafglcpaaW.PrintMore
attribute [local go_sem] max2_int min2_int max_two min_two max_three min_three max_four min_four
set_option linter.unusedVariables false
set_option linter.unusedSimpArgs false
set_option maxHeartbeats 8000000
set_option maxRecDepth 100000
section
mutual
def cohousinglaw29_ChargesNarrower.l0 : Nat → Int → Int → List (S38) → List (S54) → Bool → List (S38) → List (S38) → Int → Option (Bool)
 | 0, _, _, _, _, _, _, _, _ => none
 | k + 1, x0, x1, x2, x3, x9, x10, x12, x13 => if x13 < (x2.length : Int) then (if 0 ≤ x13 then (if x13 < (x3.length : Int) then (if x12.length < 8796093022208 then (cohousinglaw29_ChargesNarrower.l0 k x0 x1 x2 x3 x9 x10 (x12 ++ [(⟨mn ((rd_T38 x2 x13).f1) (wrap64 (((rd_T38 x2 x13).f0) + (wrap64 ((rd_T54 x3 x13).f0)))), mx (mn ((rd_T38 x2 x13).f1) (wrap64 (((rd_T38 x2 x13).f0) + (wrap64 ((rd_T54 x3 x13).f0))))) (wrap64 (((rd_T38 x2 x13).f1) - (wrap64 ((rd_T54 x3 x13).f1))))⟩ : S38)]) (wrap64 (x13 + 1))) else (none)) else (if x12.length < 8796093022208 then (cohousinglaw29_ChargesNarrower.l0 k x0 x1 x2 x3 x9 x10 (x12 ++ [(⟨(rd_T38 x2 x13).f0, (rd_T38 x2 x13).f1⟩ : S38)]) (wrap64 (x13 + 1))) else (none))) else (none)) else ((charges_Bounds.f x0 x1 x12).bind fun bt463 => (if bt463.2 = 0 then (if (x10.length : Int) = (x2.length : Int) then (cohousinglaw29_ChargesNarrower.j1 k x9 x10 bt463.1 ((bt463.1.length : Int) != (x2.length : Int))) else (cohousinglaw29_ChargesNarrower.j1 k x9 x10 bt463.1 true)) else (cohousinglaw29_ChargesNarrower.j1 k x9 x10 bt463.1 true)))
def cohousinglaw29_ChargesNarrower.j1 : Nat → Bool → List (S38) → List (S38) → Bool → Option (Bool)
 | 0, _, _, _, _ => none
 | k + 1, x9, x10, x15, x108 => if x108 = true then (some false) else (cohousinglaw29_ChargesNarrower.l1 k x9 x10 x15 0)
def cohousinglaw29_ChargesNarrower.l1 : Nat → Bool → List (S38) → List (S38) → Int → Option (Bool)
 | 0, _, _, _, _ => none
 | k + 1, x9, x10, x15, x17 => if x17 < (x10.length : Int) then (if 0 ≤ x17 then (if x17 < (x15.length : Int) then (if ((rd_T38 x15 x17).f0) < ((rd_T38 x10 x17).f0) then (some false) else (if ((rd_T38 x15 x17).f1) > ((rd_T38 x10 x17).f1) then (some false) else (if ((rd_T38 x15 x17).f0) > ((rd_T38 x15 x17).f1) then (some false) else (cohousinglaw29_ChargesNarrower.l1 k x9 x10 x15 (wrap64 (x17 + 1)))))) else (none)) else (none)) else (some x9)
end
def cohousinglaw29_ChargesNarrower.f (k : Nat) (a0 : Int) (a1 : Int) (l2 : List (S38)) (l3 : List (S54)) : Option (Bool) := (cohousinglaw29_head.f k).bind fun t448 => (if (l2.length : Int) > 20 then (some t448) else ((charges_Bounds.f a0 a1 l2).bind fun bt449 => (if bt449.2 = 0 then (cohousinglaw29_ChargesNarrower.l0 k a0 a1 l2 l3 t448 bt449.1 ([] : List (S38)) 0) else (if t448 = true then (if bt449.2 = 1 then (some ((bt449.1.length : Int) == 0)) else (some false)) else (some false)))))
def cohousinglaw29_ChargesNarrower.T13 : Bool × List (List Nat × List Nat) := (true, [([], []), ([0], [0]), ([], []), ([2], [2]), ([], []), ([], []), ([4, 5], [4, 5]), ([6], [6]), ([7], [7]), ([8], [8]), ([3, 9], [3, 9]), ([1, 10], [1, 10]), ([0, 1, 2, 3, 4, 5, 6, 7, 8, 9, 10, 11], []), ([12, 11, 0, 1, 2, 3, 4, 5, 6, 7, 8, 9, 10, 11], [11, 12])])
def cohousinglaw29_ChargesNarrower.B13 : List Nat := [0, 1, 0, 4, 0, 0, 48, 112, 240, 496, 1020, 2047, 4095, 8191]
theorem cohousinglaw29_ChargesNarrower.tab13 : rtab .any (opsOf Try.f7 13) = cohousinglaw29_ChargesNarrower.T13 := by kernel_rfl
theorem cohousinglaw29_ChargesNarrower.bits13 : waitsOk cohousinglaw29_ChargesNarrower.T13.2 cohousinglaw29_ChargesNarrower.B13 = true := by kernel_rfl
def cohousinglaw29_ChargesNarrower.T14 : Bool × List (List Nat × List Nat) := (true, [([], []), ([0], [0]), ([], []), ([2], [2]), ([], []), ([], []), ([4, 5], [4, 5]), ([6], [6]), ([7], [7]), ([8], [8]), ([3, 9], [3, 9]), ([1, 10], [1, 10]), ([0, 1, 2, 3, 4, 5, 6, 7, 8, 9, 10, 11], []), ([12, 11, 0, 1, 2, 3, 4, 5, 6, 7, 8, 9, 10, 11], [11, 12])])
def cohousinglaw29_ChargesNarrower.B14 : List Nat := [0, 1, 0, 4, 0, 0, 48, 112, 240, 496, 1020, 2047, 4095, 8191]
theorem cohousinglaw29_ChargesNarrower.tab14 : rtab .any (opsOf Try.f7 14) = cohousinglaw29_ChargesNarrower.T14 := by kernel_rfl
theorem cohousinglaw29_ChargesNarrower.bits14 : waitsOk cohousinglaw29_ChargesNarrower.T14.2 cohousinglaw29_ChargesNarrower.B14 = true := by kernel_rfl
def cohousinglaw29_ChargesNarrower.T22 : Bool × List (List Nat × List Nat) := (true, [([], []), ([], []), ([0, 1], [0, 1]), ([2], [2]), ([3], [3]), ([], []), ([], []), ([5, 6], [5, 6]), ([7], [7]), ([8], [8]), ([4, 9], [4, 9]), ([10], [10]), ([11], [11]), ([11], [11]), ([12, 13, 11], [11, 12, 13]), ([14, 11], [11, 14]), ([15, 11], [11, 15]), ([11], [11]), ([11], [11]), ([17, 18, 11], [11, 17, 18]), ([19, 11], [11, 19]), ([20, 11], [11, 20]), ([16, 21, 11], [11, 16, 21]), ([11, 22], [11, 22]), ([23, 11], [23]), ([24], [24]), ([24], [24]), ([25, 26, 24], [24, 25, 26]), ([27, 24], [24, 27]), ([28, 24], [24, 28]), ([24], [24]), ([24], [24]), ([30, 31, 24], [24, 30, 31]), ([32, 24], [24, 32]), ([33, 24], [24, 33]), ([29, 34, 24], [24, 29, 34]), ([24, 35], [24, 35])])
def cohousinglaw29_ChargesNarrower.B22 : List Nat := [0, 0, 3, 7, 15, 0, 0, 96, 224, 480, 1023, 2047, 4095, 4095, 16383, 32767, 65535, 4095, 4095, 397311, 921599, 1970175, 4194303, 8388607, 16777215, 33554431, 33554431, 134217727, 268435455, 536870911, 33554431, 33554431, 3254779903, 7549747199, 16139681791, 34359738367, 68719476735]
theorem cohousinglaw29_ChargesNarrower.tab22 : rtab .any (opsOf Try.f7 22) = cohousinglaw29_ChargesNarrower.T22 := by kernel_rfl
theorem cohousinglaw29_ChargesNarrower.bits22 : waitsOk cohousinglaw29_ChargesNarrower.T22.2 cohousinglaw29_ChargesNarrower.B22 = true := by kernel_rfl
theorem cohousinglaw29_ChargesNarrower.calls (k : Nat) (a0 : Int) (a1 : Int) (A2 : Option Addr) (c2 : Nat) (l2 : List (S38)) (A3 : Option Addr) (c3 : Nat) (l3 : List (S54)) (r : Bool) (w : World) (hr2 : Kd.C k38 w A2 l2.length l2) (hc2 : l2.length ≤ c2) (hr3 : Kd.C k54 w A3 l3.length l3) (hc3 : l3.length ≤ c3) (h : cohousinglaw29_ChargesNarrower.f k a0 a1 l2 l3 = some r) :
  Calls Try.prog 7 #[.int .i64 a0, .int .i64 a1, .slice A2 l2.length c2, .slice A3 l3.length c3] w fun e w' => e = .returned (.bool r) ∧ Below w.heap.size w w' := by
 have hu38 := Try.underlying38
 have HR2 := Aside0.mk hr2
 have HC2 := Aside0.mk hc2
 clear hr2 hc2
 have HR3 := Aside0.mk hr3
 have HC3 := Aside0.mk hc3
 clear hr3 hc3
 have HB := Aside0.mk (Below.refl w.heap.size w)
 have H : ((cohousinglaw29_head.f k).bind fun t448 => (if (l2.length : Int) > 20 then (some t448) else ((charges_Bounds.f a0 a1 l2).bind fun bt449 => (if bt449.2 = 0 then (cohousinglaw29_ChargesNarrower.l0 k a0 a1 l2 l3 t448 bt449.1 ([] : List (S38)) 0) else (if t448 = true then (if bt449.2 = 1 then (some ((bt449.1.length : Int) == 0)) else (some false)) else (some false)))))) = some r := h
 clear h
 replace H := Option.bind_eq_some_iff.mp H
 obtain ⟨t448, A50, H⟩ := H
 replace H : (if (l2.length : Int) > 20 then (some t448) else ((charges_Bounds.f a0 a1 l2).bind fun bt449 => (if bt449.2 = 0 then (cohousinglaw29_ChargesNarrower.l0 k a0 a1 l2 l3 t448 bt449.1 ([] : List (S38)) 0) else (if t448 = true then (if bt449.2 = 1 then (some ((bt449.1.length : Int) == 0)) else (some false)) else (some false))))) = some r := H
 have A5 := Aside0.mk A50
 clear A50
 by_cases c6 : (l2.length : Int) > 20
 ·rw [if_pos c6] at H
  have c6b0 : decide (20 < (l2.length : Int)) = true := decide_eq_true c6
  have c6b1 : decide (20 < l2.length) = true := decide_eq_true (by omega)
  clear c6
  obtain rfl := Option.some.inj H
  go_enter Try.func7, Try.ntmps7
  go_wp2_with (first | ((with_reducible refine gate_callee (f := 20) rfl ?_); refine gl_ (some 18) Try.func20 #[] ?_; (with_reducible refine (cohousinglaw29_head.calls k  t448 _ A5.out).mono ?_); rintro e w7 ⟨rfl, hb⟩; refine ⟨_, rfl, ?_⟩; have n0_ := Aside0.mk (below_step (bb_ HB) hb); clear HB; have HB := n0_; clear n0_; (try clear hb); (try clear hb2); (try clear hk); (try clear hi)))
  go_ret
  exact ⟨ew_, by repeat (first | (with_reducible first | exact HB.out | apply below_alloc | apply pw_below_drewN | apply below_drew1) | exact HB.out)⟩
 ·rw [if_neg c6] at H
  have c6b0 : decide (20 < (l2.length : Int)) = false := decide_eq_false c6
  have c6b1 : decide (20 < l2.length) = false := decide_eq_false (by omega)
  clear c6
  replace H := Option.bind_eq_some_iff.mp H
  obtain ⟨⟨t449, t450⟩, A80, H⟩ := H
  replace H : (if t450 = 0 then (cohousinglaw29_ChargesNarrower.l0 k a0 a1 l2 l3 t448 t449 ([] : List (S38)) 0) else (if t448 = true then (if t450 = 1 then (some ((t449.length : Int) == 0)) else (some false)) else (some false))) = some r := H
  have A8 := Aside0.mk A80
  clear A80
  by_cases c9 : t450 = 0
  ·rw [if_pos c9] at H
   have c9b0 : (t450 == 0) = true := beq_iff_eq.mpr c9
   have c9b1 : (t450 != 0) = false := bne_eq_false_iff_eq.mpr c9
   clear c9
   have H' := Aside0.mk H
   clear H
   go_enter Try.func7, Try.ntmps7
   go_wp2_with (first | ((with_reducible refine gate_callee (f := 20) rfl ?_); refine gl_ (some 18) Try.func20 #[] ?_; (with_reducible refine (cohousinglaw29_head.calls k  t448 _ A5.out).mono ?_); rintro e w10 ⟨rfl, hb⟩; refine ⟨_, rfl, ?_⟩; have n0_ := Aside0.mk (below_step (bb_ HB) hb); clear HB; have HB := n0_; clear n0_; (try clear hb); (try clear hb2); (try clear hk); (try clear hi)) | ((with_reducible refine gate_callee (f := 22) rfl ?_); refine gl_ (some 27) Try.func22 #[.int .i64 a0, .int .i64 a1, .slice A2 l2.length c2] ?_; (with_reducible refine (charges_Bounds.calls a0 a1 _ _ l2 t449 t450 _ ?side1 ?side2 A8.out).mono ?_); (case side1 => exact cc_ ((Kd.C_below HR2.out HB.out))); (case side2 => exact HC2.out); rintro e w11 ⟨v451, rfl, ho0, hb⟩; refine ⟨_, rfl, ?_⟩; have n0_ := Aside0.mk (Kd.R_lower ho0 (below_size (bb_ HB))); have n1_ := Aside0.mk (below_step (bb_ HB) hb); clear HB; have HO452 := n0_; have HB := n1_; clear n0_ n1_; (try clear hb); (try clear hb2); (try clear hk); (try clear hi); (try clear ho0)))
   go_loopg [12, 13] k (fun kq v12 v13 w' => ∃ (x12_1 : List (S38)) (x13_1 : Int), v13 = .int .i64 x13_1 ∧ Aside0 (cohousinglaw29_ChargesNarrower.l0 kq a0 a1 l2 l3 t448 t449 x12_1 x13_1 = some r) ∧ Aside0 (kq ≤ k) ∧ Aside0 (Kd.R k38 38 w' w.heap.size (fun k_ => some k_ ≠ (v12 : Value).ownBlock) v451 t449) ∧ Aside0 (Kd.R k38 38 w' w.heap.size (fun k_ => some k_ ≠ (v451 : Value).ownBlock) v12 x12_1) ∧ Aside0 (Below w.heap.size w w'))
   case atStart => exact ⟨(([] : List (S38))), (0), sd_, H', ⟨Nat.le_refl _⟩, ⟨by (with_reducible repeat (first | apply Kd.R_alloc | apply Kd.R_drewN | apply Kd.R_drew)); exact Kd.R_mono HO452.out (fun _ hk => (by simp [Value.ownBlock]))⟩, ⟨by first | exact Kd.R_nil _ _ _ _ _ | exact Kd.N_nil _ _ _ _ _ | exact Kd.V_nil _ _ _ _ _ | exact Kd.Q_nil _ _ _ _ _ | exact Kd.S_nil _ _ _ _ _⟩, ⟨by repeat (first | (with_reducible first | exact HB.out | apply below_alloc | apply pw_below_drewN | apply below_drew1) | exact HB.out)⟩⟩
   case round =>
    clear H'
    try clear c2
    try clear p2
    try clear c3
    try clear c6
    try clear c6b0
    try clear c6b1
    try clear c7
    try clear c9
    try clear c9b0
    try clear c9b1
    obtain ⟨x12_1, x13_1, rfl, HA, HK1, HO_10, HO_12, HB⟩ := hrel
    cases gk with
    | zero => exact absurd HA.out (by simp [cohousinglaw29_ChargesNarrower.l0])
    | succ k1 =>
     have H := HA.out
     clear HA
     simp only [cohousinglaw29_ChargesNarrower.l0] at H
     by_cases c12 : x13_1 < (l2.length : Int)
     ·rw [if_pos c12] at H
      have c12b0 : decide (x13_1 < (l2.length : Int)) = true := decide_eq_true c12
      clear c12
      by_cases c13 : 0 ≤ x13_1
      ·rw [if_pos c13] at H
       have c13b0 : decide (0 ≤ x13_1) = true := decide_eq_true c13
       clear c13
       by_cases c14 : x13_1 < (l3.length : Int)
       ·rw [if_pos c14] at H
        have c14b0 : decide (x13_1 < (l3.length : Int)) = true := decide_eq_true c14
        clear c14
        obtain ⟨ji15, hji15⟩ : ∃ j_ : Int, (mn ((rd_T38 l2 x13_1).f1) (wrap64 (((rd_T38 l2 x13_1).f0) + (wrap64 ((rd_T54 l3 x13_1).f0))))) = j_ := ⟨_, rfl⟩
        replace H : (if x12_1.length < 8796093022208 then (cohousinglaw29_ChargesNarrower.l0 k1 a0 a1 l2 l3 t448 t449 (x12_1 ++ [(⟨ji15, mx (ji15) (wrap64 (((rd_T38 l2 x13_1).f1) - (wrap64 ((rd_T54 l3 x13_1).f1))))⟩ : S38)]) (wrap64 (x13_1 + 1))) else (none)) = some r := by first | (rw [hji15] at H; exact H) | (simp only [hji15] at H ⊢; exact H)
        have hji15_ : (if (wrap64 (((rd_T38 l2 x13_1).f0) + (wrap64 ((rd_T54 l3 x13_1).f0)))) < ((rd_T38 l2 x13_1).f1) then (wrap64 (((rd_T38 l2 x13_1).f0) + (wrap64 ((rd_T54 l3 x13_1).f0)))) else ((rd_T38 l2 x13_1).f1)) = ji15 := hji15
        obtain ⟨ji16, hji16⟩ : ∃ j_ : Int, (mx (ji15) (wrap64 (((rd_T38 l2 x13_1).f1) - (wrap64 ((rd_T54 l3 x13_1).f1))))) = j_ := ⟨_, rfl⟩
        replace H : (if x12_1.length < 8796093022208 then (cohousinglaw29_ChargesNarrower.l0 k1 a0 a1 l2 l3 t448 t449 (x12_1 ++ [(⟨ji15, ji16⟩ : S38)]) (wrap64 (x13_1 + 1))) else (none)) = some r := by first | (rw [hji16] at H; exact H) | (simp only [hji16] at H ⊢; exact H)
        have hji16_ : (if (ji15) < (wrap64 (((rd_T38 l2 x13_1).f1) - (wrap64 ((rd_T54 l3 x13_1).f1)))) then (wrap64 (((rd_T38 l2 x13_1).f1) - (wrap64 ((rd_T54 l3 x13_1).f1)))) else (ji15)) = ji16 := hji16
        by_cases c17 : x12_1.length < 8796093022208
        ·rw [if_pos c17] at H
         have LMc17 := Aside0.mk c17
         clear c17
         obtain ⟨y457, hy457⟩ : ∃ y_ : List (S38), y_ = (x12_1 ++ [(⟨ji15, ji16⟩ : S38)]) := ⟨_, rfl⟩
         replace H : (cohousinglaw29_ChargesNarrower.l0 k1 a0 a1 l2 l3 t448 t449 y457 (wrap64 (x13_1 + 1))) = some r := by first | (rw [hy457]; with_reducible exact H) | (have H2_ := (Option.bind_some _ _).symm.trans H; rw [hy457]; with_reducible exact H2_) | (have H2_ := (Option.bind_some _ _).symm.trans H; with_reducible exact H2_) | with_reducible exact H | (rw [hy457]; exact H) | exact H
         have Ny457 := Aside0.mk hy457
         clear hy457
         have H' := Aside0.mk H
         clear H
         have p453 : 0 ≤ (x13_1 : Int) := od_
         have q453 : x13_1 < (l2.length : Int) := od_
         obtain ⟨ad453, e453, hx453_0, hx453_1⟩ := at_T38 HR2.out x13_1 p453 q453
         cases e453
         replace hx453_0 := (HB.out.cell (World.block_lt_of_cell? w _ hx453_0)).trans hx453_0
         replace hx453_1 := (HB.out.cell (World.block_lt_of_cell? w _ hx453_1)).trans hx453_1
         replace p453 := eq_true p453
         replace q453 := eq_true q453
         try go_wp2_with (first | ((with_reducible refine gate_dst (N := 14) rfl ?_); (try (refine gate_guard (by rfl) ?_; dsimp only)); refine box_event ?hg (N := 14) ?hd (cs := #[.int .i64 0, .int .i64 0]) (t := 38) ?hr ?_; (case hd => rfl); (case hg => rfl); (case hr => first | (go_simp; done) | (go_simp; rfl)); intro gb454 hg w18 hbox hb; have n0_ := Aside0.mk (Kd.R_below (Kd.R_elderB (rr_ HO_10) gb454 (Nat.le_of_eq hg.symm)) hb); have n1_ := Aside0.mk (Kd.R_below (Kd.R_elderB (rr_ HO_12) gb454 (Nat.le_of_eq hg.symm)) hb); have n2_ := Aside0.mk (below_step (bb_ HB) hb); have n3_ := Aside0.mk (hbox); have n4_ := Aside0.mk ((by rw [hg]; exact (below_size (bb_ HB)) : w.heap.size ≤ gb454)); have n5_ := Aside0.mk ((by rw [hg]; exact (below_size (bb_ HB)) : w.heap.size ≤ gb454)); clear HO_10; clear HO_12; clear HB; have HO_10 := n0_; have HO_12 := n1_; have HB := n2_; have BK454 := n3_; have GW454 := n4_; have GE454 := n5_; clear n0_ n1_ n2_ n3_ n4_ n5_; clear hb hbox hg; have hcz19_0 : w18.cell? ⟨gb454, 0, none⟩ = some (.int .i64 0) := (blk_cell BK454.out 0).trans rfl; have hcz19_1 : w18.cell? ⟨gb454, 1, none⟩ = some (.int .i64 0) := (blk_cell BK454.out 1).trans rfl; have hfz19_0 := blk_frozen BK454.out 0; have hfz19_1 := blk_frozen BK454.out 1))
         have n0_ : Aside0 (Kd.R k38 38 ((w18.setCell ⟨gb454, 0, none⟩ (.int .i64 ((rd_T38 l2 x13_1).f0))).setCell ⟨gb454, 1, none⟩ (.int .i64 ((rd_T38 l2 x13_1).f1))) w.heap.size (fun k_ => some k_ ≠ (u12 : Value).ownBlock ∧ k_ ≠ gb454) v451 t449) := ⟨by (with_reducible repeat (first | apply Kd.R_alloc | apply Kd.R_drewN | apply Kd.R_drew)); exact Kd.R_mono (Kd.R_far (p := ⟨gb454, 1, none⟩) (Kd.R_far (p := ⟨gb454, 0, none⟩) (Kd.R_mono HO_10.out (fun k_ hk => (⟨hk, hk.2⟩ : _ ∧ k_ ≠ gb454))) (fun _ hk => hk.2) (.int .i64 ((rd_T38 l2 x13_1).f0))) (fun _ hk => hk.2) (.int .i64 ((rd_T38 l2 x13_1).f1))) (fun _ hk => ⟨hk.1.1, hk.1.2⟩)⟩
         have n1_ : Aside0 (Kd.R k38 38 ((w18.setCell ⟨gb454, 0, none⟩ (.int .i64 ((rd_T38 l2 x13_1).f0))).setCell ⟨gb454, 1, none⟩ (.int .i64 ((rd_T38 l2 x13_1).f1))) w.heap.size (fun k_ => some k_ ≠ (v451 : Value).ownBlock ∧ k_ ≠ gb454) u12 x12_1) := ⟨by (with_reducible repeat (first | apply Kd.R_alloc | apply Kd.R_drewN | apply Kd.R_drew)); exact Kd.R_mono (Kd.R_far (p := ⟨gb454, 1, none⟩) (Kd.R_far (p := ⟨gb454, 0, none⟩) (Kd.R_mono HO_12.out (fun k_ hk => (⟨hk, hk.2⟩ : _ ∧ k_ ≠ gb454))) (fun _ hk => hk.2) (.int .i64 ((rd_T38 l2 x13_1).f0))) (fun _ hk => hk.2) (.int .i64 ((rd_T38 l2 x13_1).f1))) (fun _ hk => ⟨hk.1.1, hk.1.2⟩)⟩
         have n2_ : Aside0 (((w18.setCell ⟨gb454, 0, none⟩ (.int .i64 ((rd_T38 l2 x13_1).f0))).setCell ⟨gb454, 1, none⟩ (.int .i64 ((rd_T38 l2 x13_1).f1))).heap[gb454]? = some (.cells #[.int .i64 ((rd_T38 l2 x13_1).f0), .int .i64 ((rd_T38 l2 x13_1).f1)] 38 (0, 0))) := ⟨by (with_reducible repeat (first | refine blk_drewN ?_ _ | refine blk_drew ?_ | refine blk_alloc ?_ _)); refine blk_put (cs := #[.int .i64 ((rd_T38 l2 x13_1).f0), .int .i64 0]) ?_ 1 _ rfl; (with_reducible repeat (first | refine blk_drewN ?_ _ | refine blk_drew ?_ | refine blk_alloc ?_ _)); refine blk_put (cs := #[.int .i64 0, .int .i64 0]) ?_ 0 _ rfl; (with_reducible repeat (first | refine blk_drewN ?_ _ | refine blk_drew ?_ | refine blk_alloc ?_ _)); exact BK454.out⟩
         have n3_ : Aside0 (Below w.heap.size w ((w18.setCell ⟨gb454, 0, none⟩ (.int .i64 ((rd_T38 l2 x13_1).f0))).setCell ⟨gb454, 1, none⟩ (.int .i64 ((rd_T38 l2 x13_1).f1)))) := ⟨by repeat (first | (with_reducible first | exact HB.out | apply below_alloc | apply pw_below_drewN | apply below_drew1 | refine below_set ?_ GE454.out) | exact HB.out)⟩
         (try clear HO_10)
         (try clear HO_12)
         (try clear BK454)
         (try clear HB)
         generalize ((w18.setCell ⟨gb454, 0, none⟩ (.int .i64 ((rd_T38 l2 x13_1).f0))).setCell ⟨gb454, 1, none⟩ (.int .i64 ((rd_T38 l2 x13_1).f1))) = w20 at n0_ n1_ n2_ n3_ ⊢
         have HO_10 := n0_
         have HO_12 := n1_
         have BK454 := n2_
         have HB := n3_
         clear n0_ n1_ n2_ n3_
         have n0_ := Aside0.mk (Kd.R_drew HO_10.out)
         have n1_ := Aside0.mk (Kd.R_drew HO_12.out)
         have n2_ := Aside0.mk (blk_drew BK454.out)
         have n3_ := Aside0.mk (below_drew1 HB.out)
         clear HO_10
         clear HO_12
         clear BK454
         clear HB
         have HO_10 := n0_
         have HO_12 := n1_
         have BK454 := n2_
         have HB := n3_
         clear n0_ n1_ n2_ n3_
         have p455 : 0 ≤ (x13_1 : Int) := od_
         have q455 : x13_1 < (l3.length : Int) := od_
         obtain ⟨ad455, e455, hx455_0, hx455_1⟩ := at_T54 HR3.out x13_1 p455 q455
         have hw455_1 := hx455_1
         have hw455_0 := hx455_0
         cases e455
         replace hx455_0 := (HB.out.cell (World.block_lt_of_cell? w _ hx455_0)).trans hx455_0
         replace hx455_1 := (HB.out.cell (World.block_lt_of_cell? w _ hx455_1)).trans hx455_1
         replace p455 := eq_true p455
         replace q455 := eq_true q455
         refine start_ (n := 14) (S := fun w' => w'.cell? ⟨gb454, 0, none⟩ = some (.int .i64 ((rd_T38 l2 x13_1).f0)) ∧ w'.cell? ⟨gb454, 1, none⟩ = some (.int .i64 ((rd_T38 l2 x13_1).f1)) ∧ w'.cell? (ad455.add ((x13_1).toNat * 2)) = some (.int .u16 ((rd_T54 l3 x13_1).f0)) ∧ w'.cell? ⟨(ad455.add ((x13_1).toNat * 2)).block, (ad455.add ((x13_1).toNat * 2)).off + 1, none⟩ = some (.int .u16 ((rd_T54 l3 x13_1).f1))) (ds := [13]) #[n_, n_, n_, n_, n_, n_, n_, n_, n_, n_, n_, n_, n_, n_] (by kernel_rfl) rfl rfl ⟨(blk_cell BK454.out 0).trans rfl, (blk_cell BK454.out 1).trans rfl, ((HB.out.cell (World.block_lt_of_cell? w _ hw455_0)).trans hw455_0), ((HB.out.cell (World.block_lt_of_cell? w _ hw455_1)).trans hw455_1)⟩ (fun hHeld => ?_); refine with_tabW cohousinglaw29_ChargesNarrower.tab13 cohousinglaw29_ChargesNarrower.bits13 (fun HT_ HW_ => ?_)
         generalize w20.drew = w21 at HO_10 HO_12 BK454 HB hx455_0 hx455_1 hHeld ⊢
         refine pu_ 0 56 (w_ 14 1) rfl HT_ ?_
         refine pu_ 2 58 (w_ 14 5) rfl HT_ ?_
         refine pu_ 4 60 (w_ 14 21) rfl HT_ ?_
         refine pu_ 5 61 (w_ 14 53) rfl HT_ ?_
         refine pu_ 6 62 (w_ 14 117) rfl HT_ ?_
         refine pu_ 7 63 (w_ 14 245) rfl HT_ ?_
         refine ta_ 1 57 (w_ 14 247) rfl HT_ HW_ hHeld (by rintro w' ⟨s0, s1, s2, s3⟩; go_simp; with_reducible rfl) ?_
         refine ta_ 3 59 (w_ 14 255) rfl HT_ HW_ hHeld (by rintro w' ⟨s0, s1, s2, s3⟩; go_simp; with_reducible rfl) ?_
         refine ta_ 8 64 (w_ 14 511) rfl HT_ HW_ hHeld (by rintro w' ⟨s0, s1, s2, s3⟩; go_simp; with_reducible rfl) ?_
         refine pu_ 9 65 (w_ 14 1023) rfl HT_ ?_
         refine pu_ 10 66 (w_ 14 2047) rfl HT_ ?_
         refine pu_ 11 67 (w_ 14 4095) rfl HT_ ?_
         refine pu_ 12 68 (w_ 14 8191) rfl HT_ ?_
         refine last_ (i := 13) (N := none) (w_ 14 16383) rfl rfl (one_of HT_.out (by kernel_rfl)) (by decide) (fun K hK => ?_)
         have hs22 : w21.cell? ⟨gb454, 0, none⟩ = some (.int .i64 ((rd_T38 l2 x13_1).f0)) := (blk_cell BK454.out 0).trans rfl
         have hfs22 := blk_frozen BK454.out 0
         refine skip_ (w1 := ?_) (by rfl) rfl ?_ ?_
         rotate_left
         ·go_simp
          rfl
         refine hK.out _ _ ?_
         clear hK K
         refine done_ (done_of HT_.out (by kernel_rfl)) ?_
         try go_wp2
         have n0_ : Aside0 (Kd.R k38 38 (w21.setCell ⟨gb454, 0, none⟩ (.int .i64 ji15)) w.heap.size (fun k_ => some k_ ≠ (u12 : Value).ownBlock ∧ k_ ≠ gb454) v451 t449) := ⟨by (with_reducible repeat (first | apply Kd.R_alloc | apply Kd.R_drewN | apply Kd.R_drew)); exact Kd.R_mono (Kd.R_far (p := ⟨gb454, 0, none⟩) (Kd.R_mono HO_10.out (fun k_ hk => (⟨hk, hk.2⟩ : _ ∧ k_ ≠ gb454))) (fun _ hk => hk.2) (.int .i64 ji15)) (fun _ hk => ⟨hk.1.1, hk.1.2⟩)⟩
         have n1_ : Aside0 (Kd.R k38 38 (w21.setCell ⟨gb454, 0, none⟩ (.int .i64 ji15)) w.heap.size (fun k_ => some k_ ≠ (v451 : Value).ownBlock ∧ k_ ≠ gb454) u12 x12_1) := ⟨by (with_reducible repeat (first | apply Kd.R_alloc | apply Kd.R_drewN | apply Kd.R_drew)); exact Kd.R_mono (Kd.R_far (p := ⟨gb454, 0, none⟩) (Kd.R_mono HO_12.out (fun k_ hk => (⟨hk, hk.2⟩ : _ ∧ k_ ≠ gb454))) (fun _ hk => hk.2) (.int .i64 ji15)) (fun _ hk => ⟨hk.1.1, hk.1.2⟩)⟩
         have n2_ : Aside0 ((w21.setCell ⟨gb454, 0, none⟩ (.int .i64 ji15)).heap[gb454]? = some (.cells #[.int .i64 ji15, .int .i64 ((rd_T38 l2 x13_1).f1)] 38 (0, 0))) := ⟨by (with_reducible repeat (first | refine blk_drewN ?_ _ | refine blk_drew ?_ | refine blk_alloc ?_ _)); refine blk_put (cs := #[.int .i64 ((rd_T38 l2 x13_1).f0), .int .i64 ((rd_T38 l2 x13_1).f1)]) ?_ 0 _ rfl; (with_reducible repeat (first | refine blk_drewN ?_ _ | refine blk_drew ?_ | refine blk_alloc ?_ _)); exact BK454.out⟩
         have n3_ : Aside0 (Below w.heap.size w (w21.setCell ⟨gb454, 0, none⟩ (.int .i64 ji15))) := ⟨by repeat (first | (with_reducible first | exact HB.out | apply below_alloc | apply pw_below_drewN | apply below_drew1 | refine below_set ?_ GE454.out) | exact HB.out)⟩
         (try clear HO_10)
         (try clear HO_12)
         (try clear BK454)
         (try clear HB)
         generalize (w21.setCell ⟨gb454, 0, none⟩ (.int .i64 ji15)) = w23 at n0_ n1_ n2_ n3_ ⊢
         have HO_10 := n0_
         have HO_12 := n1_
         have BK454 := n2_
         have HB := n3_
         clear n0_ n1_ n2_ n3_
         have n0_ := Aside0.mk (Kd.R_drew HO_10.out)
         have n1_ := Aside0.mk (Kd.R_drew HO_12.out)
         have n2_ := Aside0.mk (blk_drew BK454.out)
         have n3_ := Aside0.mk (below_drew1 HB.out)
         clear HO_10
         clear HO_12
         clear BK454
         clear HB
         have HO_10 := n0_
         have HO_12 := n1_
         have BK454 := n2_
         have HB := n3_
         clear n0_ n1_ n2_ n3_
         have p456 : 0 ≤ (x13_1 : Int) := od_
         have q456 : x13_1 < (l3.length : Int) := od_
         obtain ⟨ad456, e456, hx456_0, hx456_1⟩ := at_T54 HR3.out x13_1 p456 q456
         have hw456_1 := hx456_1
         have hw456_0 := hx456_0
         obtain rfl : ad455 = ad456 := (by injection e456)
         replace hx456_0 := (HB.out.cell (World.block_lt_of_cell? w _ hx456_0)).trans hx456_0
         replace hx456_1 := (HB.out.cell (World.block_lt_of_cell? w _ hx456_1)).trans hx456_1
         replace p456 := eq_true p456
         replace q456 := eq_true q456
         refine start_ (n := 14) (S := fun w' => w'.cell? ⟨gb454, 0, none⟩ = some (.int .i64 ji15) ∧ w'.cell? ⟨gb454, 1, none⟩ = some (.int .i64 ((rd_T38 l2 x13_1).f1)) ∧ w'.cell? (ad455.add ((x13_1).toNat * 2)) = some (.int .u16 ((rd_T54 l3 x13_1).f0)) ∧ w'.cell? ⟨(ad455.add ((x13_1).toNat * 2)).block, (ad455.add ((x13_1).toNat * 2)).off + 1, none⟩ = some (.int .u16 ((rd_T54 l3 x13_1).f1))) (ds := [13]) #[n_, n_, n_, n_, n_, n_, n_, n_, n_, n_, n_, n_, n_, n_] (by kernel_rfl) rfl rfl ⟨(blk_cell BK454.out 0).trans rfl, (blk_cell BK454.out 1).trans rfl, ((HB.out.cell (World.block_lt_of_cell? w _ hw456_0)).trans hw456_0), ((HB.out.cell (World.block_lt_of_cell? w _ hw456_1)).trans hw456_1)⟩ (fun hHeld => ?_); refine with_tabW cohousinglaw29_ChargesNarrower.tab14 cohousinglaw29_ChargesNarrower.bits14 (fun HT_ HW_ => ?_)
         generalize w23.drew = w24 at HO_10 HO_12 BK454 HB hx456_0 hx456_1 hHeld ⊢
         refine pu_ 0 69 (w_ 14 1) rfl HT_ ?_
         refine pu_ 2 71 (w_ 14 5) rfl HT_ ?_
         refine pu_ 4 73 (w_ 14 21) rfl HT_ ?_
         refine pu_ 5 74 (w_ 14 53) rfl HT_ ?_
         refine pu_ 6 75 (w_ 14 117) rfl HT_ ?_
         refine pu_ 7 76 (w_ 14 245) rfl HT_ ?_
         refine ta_ 1 70 (w_ 14 247) rfl HT_ HW_ hHeld (by rintro w' ⟨s0, s1, s2, s3⟩; go_simp; with_reducible rfl) ?_
         refine ta_ 3 72 (w_ 14 255) rfl HT_ HW_ hHeld (by rintro w' ⟨s0, s1, s2, s3⟩; go_simp; with_reducible rfl) ?_
         refine ta_ 8 77 (w_ 14 511) rfl HT_ HW_ hHeld (by rintro w' ⟨s0, s1, s2, s3⟩; go_simp; with_reducible rfl) ?_
         refine pu_ 9 78 (w_ 14 1023) rfl HT_ ?_
         refine pu_ 10 79 (w_ 14 2047) rfl HT_ ?_
         refine pu_ 11 80 (w_ 14 4095) rfl HT_ ?_
         refine pu_ 12 81 (w_ 14 8191) rfl HT_ ?_
         refine last_ (i := 13) (N := none) (w_ 14 16383) rfl rfl (one_of HT_.out (by kernel_rfl)) (by decide) (fun K hK => ?_)
         have hs25 : w24.cell? ⟨gb454, 1, none⟩ = some (.int .i64 ((rd_T38 l2 x13_1).f1)) := (blk_cell BK454.out 1).trans rfl
         have hfs25 := blk_frozen BK454.out 1
         refine skip_ (w1 := ?_) (by rfl) rfl ?_ ?_
         rotate_left
         ·go_simp
          rfl
         refine hK.out _ _ ?_
         clear hK K
         refine done_ (done_of HT_.out (by kernel_rfl)) ?_
         have hcz26_0 : w24.cell? ⟨gb454, 0, none⟩ = some (.int .i64 ji15) := (blk_cell BK454.out 0).trans rfl
         have hcz26_1 : w24.cell? ⟨gb454, 1, none⟩ = some (.int .i64 ((rd_T38 l2 x13_1).f1)) := (blk_cell BK454.out 1).trans rfl
         have hfz26_0 := blk_frozen BK454.out 0
         have hfz26_1 := blk_frozen BK454.out 1
         try go_wp2_with (first | ((with_reducible refine gate_builtin (b := .append) (xs := #[.tmp 82, .tmp 84]) rfl ?_); (try (refine gate_guard (by rfl) ?_; dsimp only)); at_builtin; refine Kd.R_append k38 (w0 := w) w.heap.size rfl (.tmp 82) (.tmp 84) 23 38 (.agg #[(.int .i64 0), (.int .i64 0)]) 16 rfl Try.underlying23 info38 rfl (by decide) (by omega) u12 x12_1 (⟨ji15, ji16⟩ : S38) [.int .i64 ji15, .int .i64 ji16] (fun k_ => some k_ ≠ (v451 : Value).ownBlock ∧ k_ ≠ gb454) (fun _ => False) rfl (by first | (go_simp; done) | (go_simp; rfl)) ?aP (fun _ hk => hk.elim) ?aF ?aO ?aB ?aS ?aL ?_; (case aP => exact k38_mkM _ _ _ (⟨ji15, ji16⟩ : S38)); (case aB => exact (bs_ HB GE454.out)); (case aF => exact (fun k_ hk => ⟨Kd.fresh' (Kd.R_lt (by (with_reducible repeat (first | apply Kd.R_alloc | apply Kd.R_drewN | apply Kd.R_drew)); exact (Kd.R_mono (Kd.R_far (p := ⟨gb454, 1, none⟩) (Kd.R_mono HO_10.out (fun k_ hk => (⟨hk, hk.2⟩ : _ ∧ k_ ≠ gb454))) (fun _ hk => hk.2) (.int .i64 ji16)) (fun _ h_ => h_.1)))) k_ hk, Kd.freshB (g := gb454) (o := .cells #[.int .i64 ji15, .int .i64 ji16] 38 (0, 0)) (by (with_reducible repeat (first | refine blk_drewN ?_ _ | refine blk_drew ?_ | refine blk_alloc ?_ _)); refine blk_put (cs := #[.int .i64 ji15, .int .i64 ((rd_T38 l2 x13_1).f1)]) ?_ 1 _ rfl; (with_reducible repeat (first | refine blk_drewN ?_ _ | refine blk_drew ?_ | refine blk_alloc ?_ _)); exact BK454.out) k_ hk⟩)); (case aO => exact (by (with_reducible repeat (first | apply Kd.R_alloc | apply Kd.R_drewN | apply Kd.R_drew)); exact Kd.R_mono (Kd.R_far (p := ⟨gb454, 1, none⟩) (Kd.R_mono HO_12.out (fun k_ hk => (⟨hk, hk.2⟩ : _ ∧ k_ ≠ gb454))) (fun _ hk => hk.2) (.int .i64 ji16)) (fun _ hk => ⟨hk.1.1, hk.1.2⟩))); (case aS => exact (below_size (bs_ HB GE454.out))); (case aL => have := LMc17.out; omega); intro v458 w27 ho hb hg hat; rw [← Ny457.out] at ho; have n0_ := Aside0.mk (Kd.R_after (ok := (fun k_ => k_ ≠ gb454)) (by (with_reducible repeat (first | apply Kd.R_alloc | apply Kd.R_drewN | apply Kd.R_drew)); exact Kd.R_mono (Kd.R_far (p := ⟨gb454, 1, none⟩) (Kd.R_mono HO_10.out (fun k_ hk => (⟨hk, hk.2⟩ : _ ∧ k_ ≠ gb454))) (fun _ hk => hk.2) (.int .i64 ji16)) (fun _ hk => ⟨hk.1.2, hk.1.1⟩)) hg hat); have n1_ := Aside0.mk (blk_grown (g := gb454) (o := .cells #[.int .i64 ji15, .int .i64 ji16] 38 (0, 0)) (by (with_reducible repeat (first | refine blk_drewN ?_ _ | refine blk_drew ?_ | refine blk_alloc ?_ _)); refine blk_put (cs := #[.int .i64 ji15, .int .i64 ((rd_T38 l2 x13_1).f1)]) ?_ 1 _ rfl; (with_reducible repeat (first | refine blk_drewN ?_ _ | refine blk_drew ?_ | refine blk_alloc ?_ _)); exact BK454.out) hg (Kd.R_away HO_12.out (fun _ hk => hk.2))); have n2_ := Aside0.mk (hb); have n3_ := Aside0.mk (ho); clear HO_10; clear BK454; clear HB; clear HO_12; have HO_10 := n0_; have BK454 := n1_; have HB := n2_; have HO459 := n3_; clear n0_ n1_ n2_ n3_; clear ho hb hg hat))
         go_roundg k1
         case measure => have := HK1.out; omega
         case rel => exact ⟨(y457), (wrap64 (x13_1 + 1)), sd_, H', ⟨by have := HK1.out; omega⟩, ⟨by (with_reducible repeat (first | apply Kd.R_alloc | apply Kd.R_drewN | apply Kd.R_drew)); exact Kd.R_mono HO_10.out (fun _ hk => hk.2)⟩, ⟨by (with_reducible repeat (first | apply Kd.R_alloc | apply Kd.R_drewN | apply Kd.R_drew)); exact Kd.R_mono HO459.out (fun _ hk => hk.1)⟩, ⟨by repeat (first | (with_reducible first | exact HB.out | apply below_alloc | apply pw_below_drewN | apply below_drew1 | refine below_set ?_ GE454.out) | exact HB.out)⟩⟩
        ·rw [if_neg c17] at H
         exact absurd H (by simp)
       ·rw [if_neg c14] at H
        have c14b0 : decide (x13_1 < (l3.length : Int)) = false := decide_eq_false c14
        clear c14
        by_cases c28 : x12_1.length < 8796093022208
        ·rw [if_pos c28] at H
         have LMc28 := Aside0.mk c28
         clear c28
         obtain ⟨y460, hy460⟩ : ∃ y_ : List (S38), y_ = (x12_1 ++ [(⟨(rd_T38 l2 x13_1).f0, (rd_T38 l2 x13_1).f1⟩ : S38)]) := ⟨_, rfl⟩
         replace H : (cohousinglaw29_ChargesNarrower.l0 k1 a0 a1 l2 l3 t448 t449 y460 (wrap64 (x13_1 + 1))) = some r := by first | (rw [hy460]; with_reducible exact H) | (have H2_ := (Option.bind_some _ _).symm.trans H; rw [hy460]; with_reducible exact H2_) | (have H2_ := (Option.bind_some _ _).symm.trans H; with_reducible exact H2_) | with_reducible exact H | (rw [hy460]; exact H) | exact H
         have Ny460 := Aside0.mk hy460
         clear hy460
         have H' := Aside0.mk H
         clear H
         have p453 : 0 ≤ (x13_1 : Int) := od_
         have q453 : x13_1 < (l2.length : Int) := od_
         obtain ⟨ad453, e453, hx453_0, hx453_1⟩ := at_T38 HR2.out x13_1 p453 q453
         cases e453
         replace hx453_0 := (HB.out.cell (World.block_lt_of_cell? w _ hx453_0)).trans hx453_0
         replace hx453_1 := (HB.out.cell (World.block_lt_of_cell? w _ hx453_1)).trans hx453_1
         replace p453 := eq_true p453
         replace q453 := eq_true q453
         go_wp2_with (first | ((with_reducible refine gate_dst (N := 14) rfl ?_); (try (refine gate_guard (by rfl) ?_; dsimp only)); refine box_event ?hg (N := 14) ?hd (cs := #[.int .i64 0, .int .i64 0]) (t := 38) ?hr ?_; (case hd => rfl); (case hg => rfl); (case hr => first | (go_simp; done) | (go_simp; rfl)); intro gb454 hg w29 hbox hb; have n0_ := Aside0.mk (Kd.R_below (Kd.R_elderB (rr_ HO_10) gb454 (Nat.le_of_eq hg.symm)) hb); have n1_ := Aside0.mk (Kd.R_below (Kd.R_elderB (rr_ HO_12) gb454 (Nat.le_of_eq hg.symm)) hb); have n2_ := Aside0.mk (below_step (bb_ HB) hb); have n3_ := Aside0.mk (hbox); have n4_ := Aside0.mk ((by rw [hg]; exact (below_size (bb_ HB)) : w.heap.size ≤ gb454)); have n5_ := Aside0.mk ((by rw [hg]; exact (below_size (bb_ HB)) : w.heap.size ≤ gb454)); clear HO_10; clear HO_12; clear HB; have HO_10 := n0_; have HO_12 := n1_; have HB := n2_; have BK454 := n3_; have GW454 := n4_; have GE454 := n5_; clear n0_ n1_ n2_ n3_ n4_ n5_; clear hb hbox hg; have hcz30_0 : w29.cell? ⟨gb454, 0, none⟩ = some (.int .i64 0) := (blk_cell BK454.out 0).trans rfl; have hcz30_1 : w29.cell? ⟨gb454, 1, none⟩ = some (.int .i64 0) := (blk_cell BK454.out 1).trans rfl; have hfz30_0 := blk_frozen BK454.out 0; have hfz30_1 := blk_frozen BK454.out 1) | ((with_reducible refine gate_builtin (b := .append) (xs := #[.tmp 82, .tmp 84]) rfl ?_); (try (refine gate_guard (by rfl) ?_; dsimp only)); at_builtin; refine Kd.R_append k38 (w0 := w) w.heap.size rfl (.tmp 82) (.tmp 84) 23 38 (.agg #[(.int .i64 0), (.int .i64 0)]) 16 rfl Try.underlying23 info38 rfl (by decide) (by omega) u12 x12_1 (⟨(rd_T38 l2 x13_1).f0, (rd_T38 l2 x13_1).f1⟩ : S38) [.int .i64 ((rd_T38 l2 x13_1).f0), .int .i64 ((rd_T38 l2 x13_1).f1)] (fun k_ => some k_ ≠ (v451 : Value).ownBlock ∧ k_ ≠ gb454) (fun _ => False) rfl (by first | (go_simp; done) | (go_simp; rfl)) ?aP (fun _ hk => hk.elim) ?aF ?aO ?aB ?aS ?aL ?_; (case aP => exact k38_mkM _ _ _ (⟨(rd_T38 l2 x13_1).f0, (rd_T38 l2 x13_1).f1⟩ : S38)); (case aB => exact (bs_ HB GE454.out)); (case aF => exact (fun k_ hk => ⟨Kd.fresh' (Kd.R_lt (by (with_reducible repeat (first | apply Kd.R_alloc | apply Kd.R_drewN | apply Kd.R_drew)); exact (Kd.R_mono (Kd.R_far (p := ⟨gb454, 1, none⟩) (Kd.R_far (p := ⟨gb454, 0, none⟩) (Kd.R_mono HO_10.out (fun k_ hk => (⟨hk, hk.2⟩ : _ ∧ k_ ≠ gb454))) (fun _ hk => hk.2) (.int .i64 ((rd_T38 l2 x13_1).f0))) (fun _ hk => hk.2) (.int .i64 ((rd_T38 l2 x13_1).f1))) (fun _ h_ => h_.1)))) k_ hk, Kd.freshB (g := gb454) (o := .cells #[.int .i64 ((rd_T38 l2 x13_1).f0), .int .i64 ((rd_T38 l2 x13_1).f1)] 38 (0, 0)) (by (with_reducible repeat (first | refine blk_drewN ?_ _ | refine blk_drew ?_ | refine blk_alloc ?_ _)); refine blk_put (cs := #[.int .i64 ((rd_T38 l2 x13_1).f0), .int .i64 0]) ?_ 1 _ rfl; (with_reducible repeat (first | refine blk_drewN ?_ _ | refine blk_drew ?_ | refine blk_alloc ?_ _)); refine blk_put (cs := #[.int .i64 0, .int .i64 0]) ?_ 0 _ rfl; (with_reducible repeat (first | refine blk_drewN ?_ _ | refine blk_drew ?_ | refine blk_alloc ?_ _)); exact BK454.out) k_ hk⟩)); (case aO => exact (by (with_reducible repeat (first | apply Kd.R_alloc | apply Kd.R_drewN | apply Kd.R_drew)); exact Kd.R_mono (Kd.R_far (p := ⟨gb454, 1, none⟩) (Kd.R_far (p := ⟨gb454, 0, none⟩) (Kd.R_mono HO_12.out (fun k_ hk => (⟨hk, hk.2⟩ : _ ∧ k_ ≠ gb454))) (fun _ hk => hk.2) (.int .i64 ((rd_T38 l2 x13_1).f0))) (fun _ hk => hk.2) (.int .i64 ((rd_T38 l2 x13_1).f1))) (fun _ hk => ⟨hk.1.1, hk.1.2⟩))); (case aS => exact (below_size (bs_ HB GE454.out))); (case aL => have := LMc28.out; omega); intro v461 w31 ho hb hg hat; rw [← Ny460.out] at ho; have n0_ := Aside0.mk (Kd.R_after (ok := (fun k_ => k_ ≠ gb454)) (by (with_reducible repeat (first | apply Kd.R_alloc | apply Kd.R_drewN | apply Kd.R_drew)); exact Kd.R_mono (Kd.R_far (p := ⟨gb454, 1, none⟩) (Kd.R_far (p := ⟨gb454, 0, none⟩) (Kd.R_mono HO_10.out (fun k_ hk => (⟨hk, hk.2⟩ : _ ∧ k_ ≠ gb454))) (fun _ hk => hk.2) (.int .i64 ((rd_T38 l2 x13_1).f0))) (fun _ hk => hk.2) (.int .i64 ((rd_T38 l2 x13_1).f1))) (fun _ hk => ⟨hk.1.2, hk.1.1⟩)) hg hat); have n1_ := Aside0.mk (blk_grown (g := gb454) (o := .cells #[.int .i64 ((rd_T38 l2 x13_1).f0), .int .i64 ((rd_T38 l2 x13_1).f1)] 38 (0, 0)) (by (with_reducible repeat (first | refine blk_drewN ?_ _ | refine blk_drew ?_ | refine blk_alloc ?_ _)); refine blk_put (cs := #[.int .i64 ((rd_T38 l2 x13_1).f0), .int .i64 0]) ?_ 1 _ rfl; (with_reducible repeat (first | refine blk_drewN ?_ _ | refine blk_drew ?_ | refine blk_alloc ?_ _)); refine blk_put (cs := #[.int .i64 0, .int .i64 0]) ?_ 0 _ rfl; (with_reducible repeat (first | refine blk_drewN ?_ _ | refine blk_drew ?_ | refine blk_alloc ?_ _)); exact BK454.out) hg (Kd.R_away HO_12.out (fun _ hk => hk.2))); have n2_ := Aside0.mk (hb); have n3_ := Aside0.mk (ho); clear HO_10; clear BK454; clear HB; clear HO_12; have HO_10 := n0_; have BK454 := n1_; have HB := n2_; have HO462 := n3_; clear n0_ n1_ n2_ n3_; clear ho hb hg hat))
         go_roundg k1
         case measure => have := HK1.out; omega
         case rel => exact ⟨(y460), (wrap64 (x13_1 + 1)), sd_, H', ⟨by have := HK1.out; omega⟩, ⟨by (with_reducible repeat (first | apply Kd.R_alloc | apply Kd.R_drewN | apply Kd.R_drew)); exact Kd.R_mono HO_10.out (fun _ hk => hk.2)⟩, ⟨by (with_reducible repeat (first | apply Kd.R_alloc | apply Kd.R_drewN | apply Kd.R_drew)); exact Kd.R_mono HO462.out (fun _ hk => hk.1)⟩, ⟨by repeat (first | (with_reducible first | exact HB.out | apply below_alloc | apply pw_below_drewN | apply below_drew1 | refine below_set ?_ GE454.out) | exact HB.out)⟩⟩
        ·rw [if_neg c28] at H
         exact absurd H (by simp)
      ·rw [if_neg c13] at H
       exact absurd H (by simp)
     ·rw [if_neg c12] at H
      have c12b0 : decide (x13_1 < (l2.length : Int)) = false := decide_eq_false c12
      clear c12
      replace H := Option.bind_eq_some_iff.mp H
      obtain ⟨⟨t463, t464⟩, A320, H⟩ := H
      replace H : (if t464 = 0 then (if (t449.length : Int) = (l2.length : Int) then (cohousinglaw29_ChargesNarrower.j1 k1 t448 t449 t463 ((t463.length : Int) != (l2.length : Int))) else (cohousinglaw29_ChargesNarrower.j1 k1 t448 t449 t463 true)) else (cohousinglaw29_ChargesNarrower.j1 k1 t448 t449 t463 true)) = some r := H
      have A32 := Aside0.mk A320
      clear A320
      have HC33 := Aside0.mk H
      clear H
      obtain ⟨Ao34, co34, eo34⟩ := Kd.R_slice HO_12.out
      subst eo34
      go_upto_region 17 with (first | ((with_reducible refine gate_callee (f := 22) rfl ?_); refine gl_ (some 90) Try.func22 #[.int .i64 a0, .int .i64 a1, .slice Ao34 x12_1.length co34] ?_; (with_reducible refine (charges_Bounds.calls a0 a1 _ _ x12_1 t463 t464 _ ?side1 ?side2 A32.out).mono ?_); (case side1 => exact cc_ ((Kd.R_reads' HO_12.out).2.2)); (case side2 => exact (Kd.R_reads' HO_12.out).2.1); rintro e w35 ⟨v465, rfl, ho0, hb⟩; refine ⟨_, rfl, ?_⟩; have n0_ := Aside0.mk (Kd.R_elder' (rr_ HO_10) (Kd.R_base ho0) hb); have n1_ := Aside0.mk (Kd.R_elder' (rr_ HO_12) (Kd.R_base ho0) hb); have n2_ := Aside0.mk (Kd.R_lower (Kd.R_new' (Kd.R_new' ho0 (Kd.R_lt (rr_ HO_10))) (Kd.R_lt (rr_ HO_12))) (below_size (bb_ HB))); have n3_ := Aside0.mk (below_step (bb_ HB) hb); clear HO_10; clear HO_12; clear HB; have HO_10 := n0_; have HO_12 := n1_; have HO466 := n2_; have HB := n3_; clear n0_ n1_ n2_ n3_; (try clear hb); (try clear hb2); (try clear hk); (try clear hi); (try clear ho0)))
      (try simp only [Act.put, sI_, s0_, sS_])
      go_cut [108] (fun v108 wc => ∃ (kq : Nat) (x108_32 : Bool), v108 = .bool x108_32 ∧ Aside0 (cohousinglaw29_ChargesNarrower.j1 kq t448 t449 t463 x108_32 = some r) ∧ Aside0 (kq ≤ k1) ∧ Aside0 (Kd.R k38 38 wc w.heap.size (fun k_ => some k_ ≠ (v465 : Value).ownBlock) v451 t449) ∧ Aside0 (Kd.R k38 38 wc w.heap.size (fun k_ => some k_ ≠ (v451 : Value).ownBlock) v465 t463) ∧ Aside0 (Below w.heap.size w wc))
      case first =>
       have H := HC33.out
       clear HC33
       by_cases c36 : t464 = 0
       ·rw [if_pos c36] at H
        have c36b0 : (t464 == 0) = true := beq_iff_eq.mpr c36
        have c36b1 : (t464 != 0) = false := bne_eq_false_iff_eq.mpr c36
        clear c36
        (first | rw [c36b0] | (simp only [i64_w, i32_w]; rw [c36b0]) | skip)
        by_cases c37 : (t449.length : Int) = (l2.length : Int)
        ·rw [if_pos c37] at H
         have c37b0 : ((t449.length : Int) == (l2.length : Int)) = true := beq_iff_eq.mpr c37
         have c37b1 : ((t449.length : Int) != (l2.length : Int)) = false := bne_eq_false_iff_eq.mpr c37
         have c37b2 : (t449.length == l2.length) = true := by first | simpa using c37 | (simp at c37 ⊢; omega)
         clear c37
         have H' := Aside0.mk H
         clear H
         obtain ⟨Ao38, co38, eo38⟩ := Kd.R_slice HO_10.out
         subst eo38
         obtain ⟨Ao39, co39, eo39⟩ := Kd.R_slice HO466.out
         subst eo39
         go_wp2
         go_meet
         case rel => exact ⟨_, (((t463.length : Int) != (l2.length : Int))), sd_, H', ⟨by have := HK1.out; first | omega | exact Nat.le_refl _⟩, ⟨by (with_reducible repeat (first | apply Kd.R_alloc | apply Kd.R_drewN | apply Kd.R_drew)); exact Kd.R_mono HO_10.out (fun _ hk => hk.2)⟩, ⟨by (with_reducible repeat (first | apply Kd.R_alloc | apply Kd.R_drewN | apply Kd.R_drew)); exact Kd.R_mono HO466.out (fun _ hk => hk.1.2)⟩, ⟨by repeat (first | (with_reducible first | exact HB.out | apply below_alloc | apply pw_below_drewN | apply below_drew1) | exact HB.out)⟩⟩
        ·rw [if_neg c37] at H
         have c37b0 : ((t449.length : Int) == (l2.length : Int)) = false := beq_eq_false_iff_ne.mpr c37
         have c37b1 : ((t449.length : Int) != (l2.length : Int)) = true := bne_iff_ne.mpr c37
         have c37b2 : (t449.length == l2.length) = false := by first | simpa using c37 | (simp at c37 ⊢; omega)
         have H' := Aside0.mk H
         clear H
         obtain ⟨Ao40, co40, eo40⟩ := Kd.R_slice HO_10.out
         subst eo40
         go_wp2
         go_meet
         case rel => exact ⟨_, (true), sd_, H', ⟨by have := HK1.out; first | omega | exact Nat.le_refl _⟩, ⟨by (with_reducible repeat (first | apply Kd.R_alloc | apply Kd.R_drewN | apply Kd.R_drew)); exact Kd.R_mono HO_10.out (fun _ hk => hk.2)⟩, ⟨by (with_reducible repeat (first | apply Kd.R_alloc | apply Kd.R_drewN | apply Kd.R_drew)); exact Kd.R_mono HO466.out (fun _ hk => hk.1.2)⟩, ⟨by repeat (first | (with_reducible first | exact HB.out | apply below_alloc | apply pw_below_drewN | apply below_drew1) | exact HB.out)⟩⟩
       ·rw [if_neg c36] at H
        have c36b0 : (t464 == 0) = false := beq_eq_false_iff_ne.mpr c36
        have c36b1 : (t464 != 0) = true := bne_iff_ne.mpr c36
        (first | rw [c36b0] | (simp only [i64_w, i32_w]; rw [c36b0]) | skip)
        have H' := Aside0.mk H
        clear H
        go_wp2
        go_meet
        case rel => exact ⟨_, (true), sd_, H', ⟨by have := HK1.out; first | omega | exact Nat.le_refl _⟩, ⟨by (with_reducible repeat (first | apply Kd.R_alloc | apply Kd.R_drewN | apply Kd.R_drew)); exact Kd.R_mono HO_10.out (fun _ hk => hk.2)⟩, ⟨by (with_reducible repeat (first | apply Kd.R_alloc | apply Kd.R_drewN | apply Kd.R_drew)); exact Kd.R_mono HO466.out (fun _ hk => hk.1.2)⟩, ⟨by repeat (first | (with_reducible first | exact HB.out | apply below_alloc | apply pw_below_drewN | apply below_drew1) | exact HB.out)⟩⟩
      case rest =>
       clear HC33
       try clear c1
       try clear c2
       try clear p2
       try clear c3
       try clear p4
       try clear q4
       try clear hx4
       try clear c6
       try clear c6b0
       try clear c6b1
       try clear p6
       try clear c7
       try clear c9
       try clear c9b0
       try clear c9b1
       try clear c12
       try clear c12b0
       try clear c13
       try clear c13b0
       try clear c14
       try clear c14b0
       try clear c17
       try clear c20
       try clear c22
       try clear c28
       try clear c36
       try clear c36b0
       try clear c36b1
       try clear c37
       try clear c37b0
       try clear c37b1
       try clear c37b2
       try clear hcz19_0
       try clear hcz19_1
       try clear hcz26_0
       try clear hcz26_1
       try clear hcz30_0
       try clear hcz30_1
       try clear hfz19_0
       try clear hfz19_1
       try clear hfz26_0
       try clear hfz26_1
       try clear hfz30_0
       try clear hfz30_1
       try clear hx453_0
       try clear hx453_1
       try clear hx455_0
       try clear hx455_1
       try clear hx456_0
       try clear hx456_1
       try clear p2
       try clear p453
       try clear p455
       try clear p456
       try clear q453
       try clear q455
       try clear q456
       obtain ⟨kq, x108_32, rfl, HA, HJ32, HO_10, HO_15, HB⟩ := hcut
       cases kq with
       | zero => exact absurd HA.out (by simp [cohousinglaw29_ChargesNarrower.j1])
       | succ kj32 =>
        have H := HA.out
        clear HA
        simp only [cohousinglaw29_ChargesNarrower.j1] at H
        by_cases c41 : x108_32 = true
        ·subst c41
         have H1 : (some false) = some r := by rw [if_pos rfl] at H; exact H
         clear H
         have H := H1
         clear H1
         obtain rfl := Option.some.inj H
         go_wp2
         go_ret
         exact ⟨ew_, by repeat (first | (with_reducible first | exact HB.out | apply below_alloc | apply pw_below_drewN | apply below_drew1) | exact HB.out)⟩
        ·replace c41 := Bool.eq_false_iff.mpr c41
         subst c41
         have H1 : (cohousinglaw29_ChargesNarrower.l1 kj32 t448 t449 t463 0) = some r := by rw [if_neg (show ¬ (false = true) by decide)] at H; exact H
         clear H
         have H := H1
         clear H1
         have H' := Aside0.mk H
         clear H
         go_wp2
         go_loopg [17] kj32 (fun kq v17 w' => ∃ (x17_3 : Int), v17 = .int .i64 x17_3 ∧ Aside0 (cohousinglaw29_ChargesNarrower.l1 kq t448 t449 t463 x17_3 = some r) ∧ Aside0 (kq ≤ kj32) ∧ Aside0 (Kd.R k38 38 w' w.heap.size (fun k_ => some k_ ≠ (v465 : Value).ownBlock) v451 t449) ∧ Aside0 (Kd.R k38 38 w' w.heap.size (fun k_ => some k_ ≠ (v451 : Value).ownBlock) v465 t463) ∧ Aside0 (Below w.heap.size w w'))
         case atStart => exact ⟨(0), sd_, H', ⟨Nat.le_refl _⟩, ⟨by (with_reducible repeat (first | apply Kd.R_alloc | apply Kd.R_drewN | apply Kd.R_drew)); exact HO_10.out⟩, ⟨by (with_reducible repeat (first | apply Kd.R_alloc | apply Kd.R_drewN | apply Kd.R_drew)); exact HO_15.out⟩, ⟨by repeat (first | (with_reducible first | exact HB.out | apply below_alloc | apply pw_below_drewN | apply below_drew1) | exact HB.out)⟩⟩
         case round =>
          clear H'
          try clear c1
          try clear c2
          try clear p2
          try clear c3
          try clear c4
          try clear p4
          try clear q4
          try clear hx4
          try clear c6
          try clear c6b0
          try clear c6b1
          try clear p6
          try clear c7
          try clear c9
          try clear c9b0
          try clear c9b1
          try clear c12
          try clear c12b0
          try clear c13
          try clear c13b0
          try clear c14
          try clear c14b0
          try clear c17
          try clear c20
          try clear c22
          try clear c28
          try clear c36
          try clear c36b0
          try clear c36b1
          try clear c37
          try clear c37b0
          try clear c37b1
          try clear c37b2
          try clear c41
          try clear hcz19_0
          try clear hcz19_1
          try clear hcz26_0
          try clear hcz26_1
          try clear hcz30_0
          try clear hcz30_1
          try clear hfz19_0
          try clear hfz19_1
          try clear hfz26_0
          try clear hfz26_1
          try clear hfz30_0
          try clear hfz30_1
          try clear hx453_0
          try clear hx453_1
          try clear hx455_0
          try clear hx455_1
          try clear hx456_0
          try clear hx456_1
          try clear p2
          try clear p4
          try clear p453
          try clear p455
          try clear p456
          try clear p6
          try clear q4
          try clear q453
          try clear q455
          try clear q456
          obtain ⟨x17_3, rfl, HA, HK3, HO_10, HO_15, HB⟩ := hrel
          cases gk with
          | zero => exact absurd HA.out (by simp [cohousinglaw29_ChargesNarrower.l1])
          | succ k3 =>
           have H := HA.out
           clear HA
           simp only [cohousinglaw29_ChargesNarrower.l1] at H
           by_cases c42 : x17_3 < (t449.length : Int)
           ·rw [if_pos c42] at H
            have c42b0 : decide (x17_3 < (t449.length : Int)) = true := decide_eq_true c42
            clear c42
            by_cases c43 : 0 ≤ x17_3
            ·rw [if_pos c43] at H
             have c43b0 : decide (0 ≤ x17_3) = true := decide_eq_true c43
             clear c43
             by_cases c44 : x17_3 < (t463.length : Int)
             ·rw [if_pos c44] at H
              have c44b0 : decide (x17_3 < (t463.length : Int)) = true := decide_eq_true c44
              clear c44
              by_cases c45 : ((rd_T38 t463 x17_3).f0) < ((rd_T38 t449 x17_3).f0)
              ·rw [if_pos c45] at H
               have c45b0 : decide (((rd_T38 t463 x17_3).f0) < ((rd_T38 t449 x17_3).f0)) = true := decide_eq_true c45
               clear c45
               obtain rfl := Option.some.inj H
               obtain ⟨Ao46, co46, eo46⟩ := Kd.R_slice HO_10.out
               subst eo46
               try go_wp2
               have n0_ := Aside0.mk (Kd.R_drew HO_10.out)
               have n1_ := Aside0.mk (Kd.R_drew HO_15.out)
               have n2_ := Aside0.mk (below_drew1 HB.out)
               clear HO_10
               clear HO_15
               clear HB
               have HO_10 := n0_
               have HO_15 := n1_
               have HB := n2_
               clear n0_ n1_ n2_
               obtain ⟨Ao48, co48, eo48⟩ := Kd.R_slice HO_15.out
               (first | subst eo48 | (injection eo48 with f1_ f2_ f3_; have f4_ := f1_.symm; have f5_ := f3_.symm; clear f1_ f2_ f3_; subst f4_; subst f5_))
               have p467 : 0 ≤ (x17_3 : Int) := od_
               have q467 : x17_3 < (t463.length : Int) := od_
               obtain ⟨ad467, e467, hx467_0, hx467_1⟩ := at_T38 (Kd.R_reads' HO_15.out).2.2 x17_3 p467 q467
               cases e467
               replace p467 := eq_true p467
               replace q467 := eq_true q467
               have p468 : 0 ≤ (x17_3 : Int) := od_
               have q468 : x17_3 < (t449.length : Int) := od_
               obtain ⟨ad468, e468, hx468_0, hx468_1⟩ := at_T38 (Kd.R_reads' HO_10.out).2.2 x17_3 p468 q468
               cases e468
               replace p468 := eq_true p468
               replace q468 := eq_true q468
               refine start_ (n := 37) (S := fun w' => w'.cell? (ad467.add ((x17_3).toNat * 2)) = some (.int .i64 ((rd_T38 t463 x17_3).f0)) ∧ w'.cell? ⟨(ad467.add ((x17_3).toNat * 2)).block, (ad467.add ((x17_3).toNat * 2)).off + 1, none⟩ = some (.int .i64 ((rd_T38 t463 x17_3).f1)) ∧ w'.cell? (ad468.add ((x17_3).toNat * 2)) = some (.int .i64 ((rd_T38 t449 x17_3).f0)) ∧ w'.cell? ⟨(ad468.add ((x17_3).toNat * 2)).block, (ad468.add ((x17_3).toNat * 2)).off + 1, none⟩ = some (.int .i64 ((rd_T38 t449 x17_3).f1))) (ds := []) #[n_, n_, n_, n_, n_, n_, n_, n_, n_, n_, n_, n_, n_, n_, n_, n_, n_, n_, n_, n_, n_, n_, n_, n_, n_, n_, n_, n_, n_, n_, n_, n_, n_, n_, n_, n_, n_] (by kernel_rfl) rfl rfl ⟨hx467_0, hx467_1, hx468_0, hx468_1⟩ (fun hHeld => ?_); refine with_tabW cohousinglaw29_ChargesNarrower.tab22 cohousinglaw29_ChargesNarrower.bits22 (fun HT_ HW_ => ?_)
               generalize wr.drew = w47 at HO_10 HO_15 HB hx467_0 hx467_1 hx468_0 hx468_1 hHeld ⊢
               refine pu_ 0 115 (w_ 37 1) rfl HT_ ?_
               refine pu_ 1 116 (w_ 37 3) rfl HT_ ?_
               refine pu_ 2 117 (w_ 37 7) rfl HT_ ?_
               refine pu_ 3 118 (w_ 37 15) rfl HT_ ?_
               refine pu_ 5 120 (w_ 37 47) rfl HT_ ?_
               refine pu_ 6 121 (w_ 37 111) rfl HT_ ?_
               refine pu_ 7 122 (w_ 37 239) rfl HT_ ?_
               refine pu_ 8 123 (w_ 37 495) rfl HT_ ?_
               refine ta_ 4 119 (w_ 37 511) rfl HT_ HW_ hHeld (by rintro w' ⟨s0, s1, s2, s3⟩; go_simp; with_reducible rfl) ?_
               refine ta_ 9 124 (w_ 37 1023) rfl HT_ HW_ hHeld (by rintro w' ⟨s0, s1, s2, s3⟩; go_simp; with_reducible rfl) ?_
               refine pu_ 10 125 (w_ 37 2047) rfl HT_ ?_
               refine pu_ 11 126 (w_ 37 4095) rfl HT_ ?_
               refine pn_ 12 127 (w_ 37 8191) rfl HT_ ?_
               refine pn_ 13 128 (w_ 37 16383) rfl HT_ ?_
               refine pn_ 14 129 (w_ 37 32767) rfl HT_ ?_
               refine pn_ 15 130 (w_ 37 65535) rfl HT_ ?_
               refine pn_ 16 131 (w_ 37 131071) rfl HT_ ?_
               refine pn_ 17 132 (w_ 37 262143) rfl HT_ ?_
               refine pn_ 18 133 (w_ 37 524287) rfl HT_ ?_
               refine pn_ 19 134 (w_ 37 1048575) rfl HT_ ?_
               refine pn_ 20 135 (w_ 37 2097151) rfl HT_ ?_
               refine pn_ 21 136 (w_ 37 4194303) rfl HT_ ?_
               refine pn_ 22 137 (w_ 37 8388607) rfl HT_ ?_
               refine pu_ 23 138 (w_ 37 16777215) rfl HT_ ?_
               refine pu_ 24 139 (w_ 37 33554431) rfl HT_ ?_
               refine pn_ 25 140 (w_ 37 67108863) rfl HT_ ?_
               refine pn_ 26 141 (w_ 37 134217727) rfl HT_ ?_
               refine pn_ 27 142 (w_ 37 268435455) rfl HT_ ?_
               refine pn_ 28 143 (w_ 37 536870911) rfl HT_ ?_
               refine pn_ 29 144 (w_ 37 1073741823) rfl HT_ ?_
               refine pn_ 30 145 (w_ 37 2147483647) rfl HT_ ?_
               refine pn_ 31 146 (w_ 37 4294967295) rfl HT_ ?_
               refine pn_ 32 147 (w_ 37 8589934591) rfl HT_ ?_
               refine pn_ 33 148 (w_ 37 17179869183) rfl HT_ ?_
               refine pn_ 34 149 (w_ 37 34359738367) rfl HT_ ?_
               refine pn_ 35 150 (w_ 37 68719476735) rfl HT_ ?_
               refine pu_ 36 151 (w_ 37 137438953471) rfl HT_ ?_
               refine done_ (done_of HT_.out (by kernel_rfl)) ?_
               try go_wp2
               go_ret
               exact ⟨ew_, by repeat (first | (with_reducible first | exact HB.out | apply below_alloc | apply pw_below_drewN | apply below_drew1) | exact HB.out)⟩
              ·rw [if_neg c45] at H
               have c45b0 : decide (((rd_T38 t463 x17_3).f0) < ((rd_T38 t449 x17_3).f0)) = false := decide_eq_false c45
               clear c45
               by_cases c49 : ((rd_T38 t463 x17_3).f1) > ((rd_T38 t449 x17_3).f1)
               ·rw [if_pos c49] at H
                have c49b0 : decide (((rd_T38 t449 x17_3).f1) < ((rd_T38 t463 x17_3).f1)) = true := decide_eq_true c49
                clear c49
                obtain rfl := Option.some.inj H
                obtain ⟨Ao50, co50, eo50⟩ := Kd.R_slice HO_10.out
                subst eo50
                try go_wp2
                have n0_ := Aside0.mk (Kd.R_drew HO_10.out)
                have n1_ := Aside0.mk (Kd.R_drew HO_15.out)
                have n2_ := Aside0.mk (below_drew1 HB.out)
                clear HO_10
                clear HO_15
                clear HB
                have HO_10 := n0_
                have HO_15 := n1_
                have HB := n2_
                clear n0_ n1_ n2_
                obtain ⟨Ao52, co52, eo52⟩ := Kd.R_slice HO_15.out
                (first | subst eo52 | (injection eo52 with f1_ f2_ f3_; have f4_ := f1_.symm; have f5_ := f3_.symm; clear f1_ f2_ f3_; subst f4_; subst f5_))
                have p467 : 0 ≤ (x17_3 : Int) := od_
                have q467 : x17_3 < (t463.length : Int) := od_
                obtain ⟨ad467, e467, hx467_0, hx467_1⟩ := at_T38 (Kd.R_reads' HO_15.out).2.2 x17_3 p467 q467
                cases e467
                replace p467 := eq_true p467
                replace q467 := eq_true q467
                have p468 : 0 ≤ (x17_3 : Int) := od_
                have q468 : x17_3 < (t449.length : Int) := od_
                obtain ⟨ad468, e468, hx468_0, hx468_1⟩ := at_T38 (Kd.R_reads' HO_10.out).2.2 x17_3 p468 q468
                cases e468
                replace p468 := eq_true p468
                replace q468 := eq_true q468
                have p469 : 0 ≤ (x17_3 : Int) := od_
                have q469 : x17_3 < (t463.length : Int) := od_
                obtain ⟨ad469, e469, hx469_0, hx469_1⟩ := at_T38 (Kd.R_reads' HO_15.out).2.2 x17_3 p469 q469
                obtain rfl : ad467 = ad469 := (by injection e469)
                replace p469 := eq_true p469
                replace q469 := eq_true q469
                have p470 : 0 ≤ (x17_3 : Int) := od_
                have q470 : x17_3 < (t449.length : Int) := od_
                obtain ⟨ad470, e470, hx470_0, hx470_1⟩ := at_T38 (Kd.R_reads' HO_10.out).2.2 x17_3 p470 q470
                obtain rfl : ad468 = ad470 := (by injection e470)
                replace p470 := eq_true p470
                replace q470 := eq_true q470
                refine start_ (n := 37) (S := fun w' => w'.cell? (ad467.add ((x17_3).toNat * 2)) = some (.int .i64 ((rd_T38 t463 x17_3).f0)) ∧ w'.cell? ⟨(ad467.add ((x17_3).toNat * 2)).block, (ad467.add ((x17_3).toNat * 2)).off + 1, none⟩ = some (.int .i64 ((rd_T38 t463 x17_3).f1)) ∧ w'.cell? (ad468.add ((x17_3).toNat * 2)) = some (.int .i64 ((rd_T38 t449 x17_3).f0)) ∧ w'.cell? ⟨(ad468.add ((x17_3).toNat * 2)).block, (ad468.add ((x17_3).toNat * 2)).off + 1, none⟩ = some (.int .i64 ((rd_T38 t449 x17_3).f1)) ∧ w'.cell? (ad467.add ((x17_3).toNat * 2)) = some (.int .i64 ((rd_T38 t463 x17_3).f0)) ∧ w'.cell? ⟨(ad467.add ((x17_3).toNat * 2)).block, (ad467.add ((x17_3).toNat * 2)).off + 1, none⟩ = some (.int .i64 ((rd_T38 t463 x17_3).f1)) ∧ w'.cell? (ad468.add ((x17_3).toNat * 2)) = some (.int .i64 ((rd_T38 t449 x17_3).f0)) ∧ w'.cell? ⟨(ad468.add ((x17_3).toNat * 2)).block, (ad468.add ((x17_3).toNat * 2)).off + 1, none⟩ = some (.int .i64 ((rd_T38 t449 x17_3).f1))) (ds := []) #[n_, n_, n_, n_, n_, n_, n_, n_, n_, n_, n_, n_, n_, n_, n_, n_, n_, n_, n_, n_, n_, n_, n_, n_, n_, n_, n_, n_, n_, n_, n_, n_, n_, n_, n_, n_, n_] (by kernel_rfl) rfl rfl ⟨hx467_0, hx467_1, hx468_0, hx468_1, hx469_0, hx469_1, hx470_0, hx470_1⟩ (fun hHeld => ?_); refine with_tabW cohousinglaw29_ChargesNarrower.tab22 cohousinglaw29_ChargesNarrower.bits22 (fun HT_ HW_ => ?_)
                generalize wr.drew = w51 at HO_10 HO_15 HB hx467_0 hx467_1 hx468_0 hx468_1 hx469_0 hx469_1 hx470_0 hx470_1 hHeld ⊢
                refine pu_ 0 115 (w_ 37 1) rfl HT_ ?_
                refine pu_ 1 116 (w_ 37 3) rfl HT_ ?_
                refine pu_ 2 117 (w_ 37 7) rfl HT_ ?_
                refine pu_ 3 118 (w_ 37 15) rfl HT_ ?_
                refine pu_ 5 120 (w_ 37 47) rfl HT_ ?_
                refine pu_ 6 121 (w_ 37 111) rfl HT_ ?_
                refine pu_ 7 122 (w_ 37 239) rfl HT_ ?_
                refine pu_ 8 123 (w_ 37 495) rfl HT_ ?_
                refine ta_ 4 119 (w_ 37 511) rfl HT_ HW_ hHeld (by rintro w' ⟨s0, s1, s2, s3, s4, s5, s6, s7⟩; go_simp; with_reducible rfl) ?_
                refine ta_ 9 124 (w_ 37 1023) rfl HT_ HW_ hHeld (by rintro w' ⟨s0, s1, s2, s3, s4, s5, s6, s7⟩; go_simp; with_reducible rfl) ?_
                refine pu_ 10 125 (w_ 37 2047) rfl HT_ ?_
                refine pu_ 11 126 (w_ 37 4095) rfl HT_ ?_
                refine pu_ 12 127 (w_ 37 8191) rfl HT_ ?_
                refine pu_ 13 128 (w_ 37 16383) rfl HT_ ?_
                refine pu_ 14 129 (w_ 37 32767) rfl HT_ ?_
                refine pu_ 15 130 (w_ 37 65535) rfl HT_ ?_
                refine pu_ 17 132 (w_ 37 196607) rfl HT_ ?_
                refine pu_ 18 133 (w_ 37 458751) rfl HT_ ?_
                refine pu_ 19 134 (w_ 37 983039) rfl HT_ ?_
                refine pu_ 20 135 (w_ 37 2031615) rfl HT_ ?_
                refine ta_ 16 131 (w_ 37 2097151) rfl HT_ HW_ hHeld (by rintro w' ⟨s0, s1, s2, s3, s4, s5, s6, s7⟩; go_simp; with_reducible rfl) ?_
                refine ta_ 21 136 (w_ 37 4194303) rfl HT_ HW_ hHeld (by rintro w' ⟨s0, s1, s2, s3, s4, s5, s6, s7⟩; go_simp; with_reducible rfl) ?_
                refine pu_ 22 137 (w_ 37 8388607) rfl HT_ ?_
                refine pu_ 23 138 (w_ 37 16777215) rfl HT_ ?_
                refine pu_ 24 139 (w_ 37 33554431) rfl HT_ ?_
                refine pn_ 25 140 (w_ 37 67108863) rfl HT_ ?_
                refine pn_ 26 141 (w_ 37 134217727) rfl HT_ ?_
                refine pn_ 27 142 (w_ 37 268435455) rfl HT_ ?_
                refine pn_ 28 143 (w_ 37 536870911) rfl HT_ ?_
                refine pn_ 29 144 (w_ 37 1073741823) rfl HT_ ?_
                refine pn_ 30 145 (w_ 37 2147483647) rfl HT_ ?_
                refine pn_ 31 146 (w_ 37 4294967295) rfl HT_ ?_
                refine pn_ 32 147 (w_ 37 8589934591) rfl HT_ ?_
                refine pn_ 33 148 (w_ 37 17179869183) rfl HT_ ?_
                refine pn_ 34 149 (w_ 37 34359738367) rfl HT_ ?_
                refine pn_ 35 150 (w_ 37 68719476735) rfl HT_ ?_
                refine pu_ 36 151 (w_ 37 137438953471) rfl HT_ ?_
                refine done_ (done_of HT_.out (by kernel_rfl)) ?_
                try go_wp2
                go_ret
                exact ⟨ew_, by repeat (first | (with_reducible first | exact HB.out | apply below_alloc | apply pw_below_drewN | apply below_drew1) | exact HB.out)⟩
               ·rw [if_neg c49] at H
                have c49b0 : decide (((rd_T38 t449 x17_3).f1) < ((rd_T38 t463 x17_3).f1)) = false := decide_eq_false c49
                clear c49
                by_cases c53 : ((rd_T38 t463 x17_3).f0) > ((rd_T38 t463 x17_3).f1)
                ·rw [if_pos c53] at H
                 have c53b0 : decide (((rd_T38 t463 x17_3).f1) < ((rd_T38 t463 x17_3).f0)) = true := decide_eq_true c53
                 clear c53
                 obtain rfl := Option.some.inj H
                 obtain ⟨Ao54, co54, eo54⟩ := Kd.R_slice HO_10.out
                 subst eo54
                 try go_wp2
                 have n0_ := Aside0.mk (Kd.R_drew HO_10.out)
                 have n1_ := Aside0.mk (Kd.R_drew HO_15.out)
                 have n2_ := Aside0.mk (below_drew1 HB.out)
                 clear HO_10
                 clear HO_15
                 clear HB
                 have HO_10 := n0_
                 have HO_15 := n1_
                 have HB := n2_
                 clear n0_ n1_ n2_
                 obtain ⟨Ao56, co56, eo56⟩ := Kd.R_slice HO_15.out
                 (first | subst eo56 | (injection eo56 with f1_ f2_ f3_; have f4_ := f1_.symm; have f5_ := f3_.symm; clear f1_ f2_ f3_; subst f4_; subst f5_))
                 have p467 : 0 ≤ (x17_3 : Int) := od_
                 have q467 : x17_3 < (t463.length : Int) := od_
                 obtain ⟨ad467, e467, hx467_0, hx467_1⟩ := at_T38 (Kd.R_reads' HO_15.out).2.2 x17_3 p467 q467
                 cases e467
                 replace p467 := eq_true p467
                 replace q467 := eq_true q467
                 have p468 : 0 ≤ (x17_3 : Int) := od_
                 have q468 : x17_3 < (t449.length : Int) := od_
                 obtain ⟨ad468, e468, hx468_0, hx468_1⟩ := at_T38 (Kd.R_reads' HO_10.out).2.2 x17_3 p468 q468
                 cases e468
                 replace p468 := eq_true p468
                 replace q468 := eq_true q468
                 have p469 : 0 ≤ (x17_3 : Int) := od_
                 have q469 : x17_3 < (t463.length : Int) := od_
                 obtain ⟨ad469, e469, hx469_0, hx469_1⟩ := at_T38 (Kd.R_reads' HO_15.out).2.2 x17_3 p469 q469
                 obtain rfl : ad467 = ad469 := (by injection e469)
                 replace p469 := eq_true p469
                 replace q469 := eq_true q469
                 have p470 : 0 ≤ (x17_3 : Int) := od_
                 have q470 : x17_3 < (t449.length : Int) := od_
                 obtain ⟨ad470, e470, hx470_0, hx470_1⟩ := at_T38 (Kd.R_reads' HO_10.out).2.2 x17_3 p470 q470
                 obtain rfl : ad468 = ad470 := (by injection e470)
                 replace p470 := eq_true p470
                 replace q470 := eq_true q470
                 have p471 : 0 ≤ (x17_3 : Int) := od_
                 have q471 : x17_3 < (t463.length : Int) := od_
                 obtain ⟨ad471, e471, hx471_0, hx471_1⟩ := at_T38 (Kd.R_reads' HO_15.out).2.2 x17_3 p471 q471
                 obtain rfl : ad467 = ad471 := (by injection e471)
                 replace p471 := eq_true p471
                 replace q471 := eq_true q471
                 have p472 : 0 ≤ (x17_3 : Int) := od_
                 have q472 : x17_3 < (t463.length : Int) := od_
                 obtain ⟨ad472, e472, hx472_0, hx472_1⟩ := at_T38 (Kd.R_reads' HO_15.out).2.2 x17_3 p472 q472
                 obtain rfl : ad467 = ad472 := (by injection e472)
                 replace p472 := eq_true p472
                 replace q472 := eq_true q472
                 refine start_ (n := 37) (S := fun w' => w'.cell? (ad467.add ((x17_3).toNat * 2)) = some (.int .i64 ((rd_T38 t463 x17_3).f0)) ∧ w'.cell? ⟨(ad467.add ((x17_3).toNat * 2)).block, (ad467.add ((x17_3).toNat * 2)).off + 1, none⟩ = some (.int .i64 ((rd_T38 t463 x17_3).f1)) ∧ w'.cell? (ad468.add ((x17_3).toNat * 2)) = some (.int .i64 ((rd_T38 t449 x17_3).f0)) ∧ w'.cell? ⟨(ad468.add ((x17_3).toNat * 2)).block, (ad468.add ((x17_3).toNat * 2)).off + 1, none⟩ = some (.int .i64 ((rd_T38 t449 x17_3).f1)) ∧ w'.cell? (ad467.add ((x17_3).toNat * 2)) = some (.int .i64 ((rd_T38 t463 x17_3).f0)) ∧ w'.cell? ⟨(ad467.add ((x17_3).toNat * 2)).block, (ad467.add ((x17_3).toNat * 2)).off + 1, none⟩ = some (.int .i64 ((rd_T38 t463 x17_3).f1)) ∧ w'.cell? (ad468.add ((x17_3).toNat * 2)) = some (.int .i64 ((rd_T38 t449 x17_3).f0)) ∧ w'.cell? ⟨(ad468.add ((x17_3).toNat * 2)).block, (ad468.add ((x17_3).toNat * 2)).off + 1, none⟩ = some (.int .i64 ((rd_T38 t449 x17_3).f1)) ∧ w'.cell? (ad467.add ((x17_3).toNat * 2)) = some (.int .i64 ((rd_T38 t463 x17_3).f0)) ∧ w'.cell? ⟨(ad467.add ((x17_3).toNat * 2)).block, (ad467.add ((x17_3).toNat * 2)).off + 1, none⟩ = some (.int .i64 ((rd_T38 t463 x17_3).f1)) ∧ w'.cell? (ad467.add ((x17_3).toNat * 2)) = some (.int .i64 ((rd_T38 t463 x17_3).f0)) ∧ w'.cell? ⟨(ad467.add ((x17_3).toNat * 2)).block, (ad467.add ((x17_3).toNat * 2)).off + 1, none⟩ = some (.int .i64 ((rd_T38 t463 x17_3).f1))) (ds := []) #[n_, n_, n_, n_, n_, n_, n_, n_, n_, n_, n_, n_, n_, n_, n_, n_, n_, n_, n_, n_, n_, n_, n_, n_, n_, n_, n_, n_, n_, n_, n_, n_, n_, n_, n_, n_, n_] (by kernel_rfl) rfl rfl ⟨hx467_0, hx467_1, hx468_0, hx468_1, hx469_0, hx469_1, hx470_0, hx470_1, hx471_0, hx471_1, hx472_0, hx472_1⟩ (fun hHeld => ?_); refine with_tabW cohousinglaw29_ChargesNarrower.tab22 cohousinglaw29_ChargesNarrower.bits22 (fun HT_ HW_ => ?_)
                 generalize wr.drew = w55 at HO_10 HO_15 HB hx467_0 hx467_1 hx468_0 hx468_1 hx469_0 hx469_1 hx470_0 hx470_1 hx471_0 hx471_1 hx472_0 hx472_1 hHeld ⊢
                 refine pu_ 0 115 (w_ 37 1) rfl HT_ ?_
                 refine pu_ 1 116 (w_ 37 3) rfl HT_ ?_
                 refine pu_ 2 117 (w_ 37 7) rfl HT_ ?_
                 refine pu_ 3 118 (w_ 37 15) rfl HT_ ?_
                 refine pu_ 5 120 (w_ 37 47) rfl HT_ ?_
                 refine pu_ 6 121 (w_ 37 111) rfl HT_ ?_
                 refine pu_ 7 122 (w_ 37 239) rfl HT_ ?_
                 refine pu_ 8 123 (w_ 37 495) rfl HT_ ?_
                 refine ta_ 4 119 (w_ 37 511) rfl HT_ HW_ hHeld (by rintro w' ⟨s0, s1, s2, s3, s4, s5, s6, s7, s8, s9, s10, s11⟩; go_simp; with_reducible rfl) ?_
                 refine ta_ 9 124 (w_ 37 1023) rfl HT_ HW_ hHeld (by rintro w' ⟨s0, s1, s2, s3, s4, s5, s6, s7, s8, s9, s10, s11⟩; go_simp; with_reducible rfl) ?_
                 refine pu_ 10 125 (w_ 37 2047) rfl HT_ ?_
                 refine pu_ 11 126 (w_ 37 4095) rfl HT_ ?_
                 refine pu_ 12 127 (w_ 37 8191) rfl HT_ ?_
                 refine pu_ 13 128 (w_ 37 16383) rfl HT_ ?_
                 refine pu_ 14 129 (w_ 37 32767) rfl HT_ ?_
                 refine pu_ 15 130 (w_ 37 65535) rfl HT_ ?_
                 refine pu_ 17 132 (w_ 37 196607) rfl HT_ ?_
                 refine pu_ 18 133 (w_ 37 458751) rfl HT_ ?_
                 refine pu_ 19 134 (w_ 37 983039) rfl HT_ ?_
                 refine pu_ 20 135 (w_ 37 2031615) rfl HT_ ?_
                 refine ta_ 16 131 (w_ 37 2097151) rfl HT_ HW_ hHeld (by rintro w' ⟨s0, s1, s2, s3, s4, s5, s6, s7, s8, s9, s10, s11⟩; go_simp; with_reducible rfl) ?_
                 refine ta_ 21 136 (w_ 37 4194303) rfl HT_ HW_ hHeld (by rintro w' ⟨s0, s1, s2, s3, s4, s5, s6, s7, s8, s9, s10, s11⟩; go_simp; with_reducible rfl) ?_
                 refine pu_ 22 137 (w_ 37 8388607) rfl HT_ ?_
                 refine pu_ 23 138 (w_ 37 16777215) rfl HT_ ?_
                 refine pu_ 24 139 (w_ 37 33554431) rfl HT_ ?_
                 refine pu_ 25 140 (w_ 37 67108863) rfl HT_ ?_
                 refine pu_ 26 141 (w_ 37 134217727) rfl HT_ ?_
                 refine pu_ 27 142 (w_ 37 268435455) rfl HT_ ?_
                 refine pu_ 28 143 (w_ 37 536870911) rfl HT_ ?_
                 refine pu_ 30 145 (w_ 37 1610612735) rfl HT_ ?_
                 refine pu_ 31 146 (w_ 37 3758096383) rfl HT_ ?_
                 refine pu_ 32 147 (w_ 37 8053063679) rfl HT_ ?_
                 refine pu_ 33 148 (w_ 37 16642998271) rfl HT_ ?_
                 refine ta_ 29 144 (w_ 37 17179869183) rfl HT_ HW_ hHeld (by rintro w' ⟨s0, s1, s2, s3, s4, s5, s6, s7, s8, s9, s10, s11⟩; go_simp; with_reducible rfl) ?_
                 refine ta_ 34 149 (w_ 37 34359738367) rfl HT_ HW_ hHeld (by rintro w' ⟨s0, s1, s2, s3, s4, s5, s6, s7, s8, s9, s10, s11⟩; go_simp; with_reducible rfl) ?_
                 refine pu_ 35 150 (w_ 37 68719476735) rfl HT_ ?_
                 refine pu_ 36 151 (w_ 37 137438953471) rfl HT_ ?_
                 refine done_ (done_of HT_.out (by kernel_rfl)) ?_
                 try go_wp2
                 go_ret
                 exact ⟨ew_, by repeat (first | (with_reducible first | exact HB.out | apply below_alloc | apply pw_below_drewN | apply below_drew1) | exact HB.out)⟩
                ·rw [if_neg c53] at H
                 have c53b0 : decide (((rd_T38 t463 x17_3).f1) < ((rd_T38 t463 x17_3).f0)) = false := decide_eq_false c53
                 clear c53
                 have H' := Aside0.mk H
                 clear H
                 obtain ⟨Ao57, co57, eo57⟩ := Kd.R_slice HO_10.out
                 subst eo57
                 try go_wp2
                 have n0_ := Aside0.mk (Kd.R_drew HO_10.out)
                 have n1_ := Aside0.mk (Kd.R_drew HO_15.out)
                 have n2_ := Aside0.mk (below_drew1 HB.out)
                 clear HO_10
                 clear HO_15
                 clear HB
                 have HO_10 := n0_
                 have HO_15 := n1_
                 have HB := n2_
                 clear n0_ n1_ n2_
                 obtain ⟨Ao59, co59, eo59⟩ := Kd.R_slice HO_15.out
                 (first | subst eo59 | (injection eo59 with f1_ f2_ f3_; have f4_ := f1_.symm; have f5_ := f3_.symm; clear f1_ f2_ f3_; subst f4_; subst f5_))
                 have p467 : 0 ≤ (x17_3 : Int) := od_
                 have q467 : x17_3 < (t463.length : Int) := od_
                 obtain ⟨ad467, e467, hx467_0, hx467_1⟩ := at_T38 (Kd.R_reads' HO_15.out).2.2 x17_3 p467 q467
                 cases e467
                 replace p467 := eq_true p467
                 replace q467 := eq_true q467
                 have p468 : 0 ≤ (x17_3 : Int) := od_
                 have q468 : x17_3 < (t449.length : Int) := od_
                 obtain ⟨ad468, e468, hx468_0, hx468_1⟩ := at_T38 (Kd.R_reads' HO_10.out).2.2 x17_3 p468 q468
                 cases e468
                 replace p468 := eq_true p468
                 replace q468 := eq_true q468
                 have p469 : 0 ≤ (x17_3 : Int) := od_
                 have q469 : x17_3 < (t463.length : Int) := od_
                 obtain ⟨ad469, e469, hx469_0, hx469_1⟩ := at_T38 (Kd.R_reads' HO_15.out).2.2 x17_3 p469 q469
                 obtain rfl : ad467 = ad469 := (by injection e469)
                 replace p469 := eq_true p469
                 replace q469 := eq_true q469
                 have p470 : 0 ≤ (x17_3 : Int) := od_
                 have q470 : x17_3 < (t449.length : Int) := od_
                 obtain ⟨ad470, e470, hx470_0, hx470_1⟩ := at_T38 (Kd.R_reads' HO_10.out).2.2 x17_3 p470 q470
                 obtain rfl : ad468 = ad470 := (by injection e470)
                 replace p470 := eq_true p470
                 replace q470 := eq_true q470
                 have p471 : 0 ≤ (x17_3 : Int) := od_
                 have q471 : x17_3 < (t463.length : Int) := od_
                 obtain ⟨ad471, e471, hx471_0, hx471_1⟩ := at_T38 (Kd.R_reads' HO_15.out).2.2 x17_3 p471 q471
                 obtain rfl : ad467 = ad471 := (by injection e471)
                 replace p471 := eq_true p471
                 replace q471 := eq_true q471
                 have p472 : 0 ≤ (x17_3 : Int) := od_
                 have q472 : x17_3 < (t463.length : Int) := od_
                 obtain ⟨ad472, e472, hx472_0, hx472_1⟩ := at_T38 (Kd.R_reads' HO_15.out).2.2 x17_3 p472 q472
                 obtain rfl : ad467 = ad472 := (by injection e472)
                 replace p472 := eq_true p472
                 replace q472 := eq_true q472
                 refine start_ (n := 37) (S := fun w' => w'.cell? (ad467.add ((x17_3).toNat * 2)) = some (.int .i64 ((rd_T38 t463 x17_3).f0)) ∧ w'.cell? ⟨(ad467.add ((x17_3).toNat * 2)).block, (ad467.add ((x17_3).toNat * 2)).off + 1, none⟩ = some (.int .i64 ((rd_T38 t463 x17_3).f1)) ∧ w'.cell? (ad468.add ((x17_3).toNat * 2)) = some (.int .i64 ((rd_T38 t449 x17_3).f0)) ∧ w'.cell? ⟨(ad468.add ((x17_3).toNat * 2)).block, (ad468.add ((x17_3).toNat * 2)).off + 1, none⟩ = some (.int .i64 ((rd_T38 t449 x17_3).f1)) ∧ w'.cell? (ad467.add ((x17_3).toNat * 2)) = some (.int .i64 ((rd_T38 t463 x17_3).f0)) ∧ w'.cell? ⟨(ad467.add ((x17_3).toNat * 2)).block, (ad467.add ((x17_3).toNat * 2)).off + 1, none⟩ = some (.int .i64 ((rd_T38 t463 x17_3).f1)) ∧ w'.cell? (ad468.add ((x17_3).toNat * 2)) = some (.int .i64 ((rd_T38 t449 x17_3).f0)) ∧ w'.cell? ⟨(ad468.add ((x17_3).toNat * 2)).block, (ad468.add ((x17_3).toNat * 2)).off + 1, none⟩ = some (.int .i64 ((rd_T38 t449 x17_3).f1)) ∧ w'.cell? (ad467.add ((x17_3).toNat * 2)) = some (.int .i64 ((rd_T38 t463 x17_3).f0)) ∧ w'.cell? ⟨(ad467.add ((x17_3).toNat * 2)).block, (ad467.add ((x17_3).toNat * 2)).off + 1, none⟩ = some (.int .i64 ((rd_T38 t463 x17_3).f1)) ∧ w'.cell? (ad467.add ((x17_3).toNat * 2)) = some (.int .i64 ((rd_T38 t463 x17_3).f0)) ∧ w'.cell? ⟨(ad467.add ((x17_3).toNat * 2)).block, (ad467.add ((x17_3).toNat * 2)).off + 1, none⟩ = some (.int .i64 ((rd_T38 t463 x17_3).f1))) (ds := []) #[n_, n_, n_, n_, n_, n_, n_, n_, n_, n_, n_, n_, n_, n_, n_, n_, n_, n_, n_, n_, n_, n_, n_, n_, n_, n_, n_, n_, n_, n_, n_, n_, n_, n_, n_, n_, n_] (by kernel_rfl) rfl rfl ⟨hx467_0, hx467_1, hx468_0, hx468_1, hx469_0, hx469_1, hx470_0, hx470_1, hx471_0, hx471_1, hx472_0, hx472_1⟩ (fun hHeld => ?_); refine with_tabW cohousinglaw29_ChargesNarrower.tab22 cohousinglaw29_ChargesNarrower.bits22 (fun HT_ HW_ => ?_)
                 generalize wr.drew = w58 at HO_10 HO_15 HB hx467_0 hx467_1 hx468_0 hx468_1 hx469_0 hx469_1 hx470_0 hx470_1 hx471_0 hx471_1 hx472_0 hx472_1 hHeld ⊢
                 refine pu_ 0 115 (w_ 37 1) rfl HT_ ?_
                 refine pu_ 1 116 (w_ 37 3) rfl HT_ ?_
                 refine pu_ 2 117 (w_ 37 7) rfl HT_ ?_
                 refine pu_ 3 118 (w_ 37 15) rfl HT_ ?_
                 refine pu_ 5 120 (w_ 37 47) rfl HT_ ?_
                 refine pu_ 6 121 (w_ 37 111) rfl HT_ ?_
                 refine pu_ 7 122 (w_ 37 239) rfl HT_ ?_
                 refine pu_ 8 123 (w_ 37 495) rfl HT_ ?_
                 refine ta_ 4 119 (w_ 37 511) rfl HT_ HW_ hHeld (by rintro w' ⟨s0, s1, s2, s3, s4, s5, s6, s7, s8, s9, s10, s11⟩; go_simp; with_reducible rfl) ?_
                 refine ta_ 9 124 (w_ 37 1023) rfl HT_ HW_ hHeld (by rintro w' ⟨s0, s1, s2, s3, s4, s5, s6, s7, s8, s9, s10, s11⟩; go_simp; with_reducible rfl) ?_
                 refine pu_ 10 125 (w_ 37 2047) rfl HT_ ?_
                 refine pu_ 11 126 (w_ 37 4095) rfl HT_ ?_
                 refine pu_ 12 127 (w_ 37 8191) rfl HT_ ?_
                 refine pu_ 13 128 (w_ 37 16383) rfl HT_ ?_
                 refine pu_ 14 129 (w_ 37 32767) rfl HT_ ?_
                 refine pu_ 15 130 (w_ 37 65535) rfl HT_ ?_
                 refine pu_ 17 132 (w_ 37 196607) rfl HT_ ?_
                 refine pu_ 18 133 (w_ 37 458751) rfl HT_ ?_
                 refine pu_ 19 134 (w_ 37 983039) rfl HT_ ?_
                 refine pu_ 20 135 (w_ 37 2031615) rfl HT_ ?_
                 refine ta_ 16 131 (w_ 37 2097151) rfl HT_ HW_ hHeld (by rintro w' ⟨s0, s1, s2, s3, s4, s5, s6, s7, s8, s9, s10, s11⟩; go_simp; with_reducible rfl) ?_
                 refine ta_ 21 136 (w_ 37 4194303) rfl HT_ HW_ hHeld (by rintro w' ⟨s0, s1, s2, s3, s4, s5, s6, s7, s8, s9, s10, s11⟩; go_simp; with_reducible rfl) ?_
                 refine pu_ 22 137 (w_ 37 8388607) rfl HT_ ?_
                 refine pu_ 23 138 (w_ 37 16777215) rfl HT_ ?_
                 refine pu_ 24 139 (w_ 37 33554431) rfl HT_ ?_
                 refine pu_ 25 140 (w_ 37 67108863) rfl HT_ ?_
                 refine pu_ 26 141 (w_ 37 134217727) rfl HT_ ?_
                 refine pu_ 27 142 (w_ 37 268435455) rfl HT_ ?_
                 refine pu_ 28 143 (w_ 37 536870911) rfl HT_ ?_
                 refine pu_ 30 145 (w_ 37 1610612735) rfl HT_ ?_
                 refine pu_ 31 146 (w_ 37 3758096383) rfl HT_ ?_
                 refine pu_ 32 147 (w_ 37 8053063679) rfl HT_ ?_
                 refine pu_ 33 148 (w_ 37 16642998271) rfl HT_ ?_
                 refine ta_ 29 144 (w_ 37 17179869183) rfl HT_ HW_ hHeld (by rintro w' ⟨s0, s1, s2, s3, s4, s5, s6, s7, s8, s9, s10, s11⟩; go_simp; with_reducible rfl) ?_
                 refine ta_ 34 149 (w_ 37 34359738367) rfl HT_ HW_ hHeld (by rintro w' ⟨s0, s1, s2, s3, s4, s5, s6, s7, s8, s9, s10, s11⟩; go_simp; with_reducible rfl) ?_
                 refine pu_ 35 150 (w_ 37 68719476735) rfl HT_ ?_
                 refine pu_ 36 151 (w_ 37 137438953471) rfl HT_ ?_
                 refine done_ (done_of HT_.out (by kernel_rfl)) ?_
                 try go_wp2
                 go_roundg k3
                 case measure => have := HK1.out; have := HJ32.out; have := HK3.out; omega
                 case rel => exact ⟨(wrap64 (x17_3 + 1)), sd_, H', ⟨by have := HK1.out; have := HJ32.out; have := HK3.out; omega⟩, ⟨by (with_reducible repeat (first | apply Kd.R_alloc | apply Kd.R_drewN | apply Kd.R_drew)); exact HO_10.out⟩, ⟨by (with_reducible repeat (first | apply Kd.R_alloc | apply Kd.R_drewN | apply Kd.R_drew)); exact HO_15.out⟩, ⟨by repeat (first | (with_reducible first | exact HB.out | apply below_alloc | apply pw_below_drewN | apply below_drew1) | exact HB.out)⟩⟩
             ·rw [if_neg c44] at H
              exact absurd H (by simp)
            ·rw [if_neg c43] at H
             exact absurd H (by simp)
           ·rw [if_neg c42] at H
            have c42b0 : decide (x17_3 < (t449.length : Int)) = false := decide_eq_false c42
            clear c42
            obtain rfl := Option.some.inj H
            obtain ⟨Ao60, co60, eo60⟩ := Kd.R_slice HO_10.out
            subst eo60
            go_wp2
            go_ret
            exact ⟨ew_, by repeat (first | (with_reducible first | exact HB.out | apply below_alloc | apply pw_below_drewN | apply below_drew1) | exact HB.out)⟩
  ·rw [if_neg c9] at H
   have c9b0 : (t450 == 0) = false := beq_eq_false_iff_ne.mpr c9
   have c9b1 : (t450 != 0) = true := bne_iff_ne.mpr c9
   by_cases c61 : t448 = true
   ·subst c61
    have H1 : (if t450 = 1 then (some ((t449.length : Int) == 0)) else (some false)) = some r := by rw [if_pos rfl] at H; exact H
    clear H
    have H := H1
    clear H1
    by_cases c62 : t450 = 1
    ·rw [if_pos c62] at H
     have c62b0 : (t450 == 1) = true := beq_iff_eq.mpr c62
     have c62b1 : (t450 != 1) = false := bne_eq_false_iff_eq.mpr c62
     clear c62
     obtain rfl := Option.some.inj H
     go_enter Try.func7, Try.ntmps7
     go_wp2_with (first | ((with_reducible refine gate_callee (f := 20) rfl ?_); refine gl_ (some 18) Try.func20 #[] ?_; (with_reducible refine (cohousinglaw29_head.calls k  true _ A5.out).mono ?_); rintro e w63 ⟨rfl, hb⟩; refine ⟨_, rfl, ?_⟩; have n0_ := Aside0.mk (below_step (bb_ HB) hb); clear HB; have HB := n0_; clear n0_; (try clear hb); (try clear hb2); (try clear hk); (try clear hi)) | ((with_reducible refine gate_callee (f := 22) rfl ?_); refine gl_ (some 27) Try.func22 #[.int .i64 a0, .int .i64 a1, .slice A2 l2.length c2] ?_; (with_reducible refine (charges_Bounds.calls a0 a1 _ _ l2 t449 t450 _ ?side1 ?side2 A8.out).mono ?_); (case side1 => exact cc_ ((Kd.C_below HR2.out HB.out))); (case side2 => exact HC2.out); rintro e w64 ⟨v451, rfl, ho0, hb⟩; refine ⟨_, rfl, ?_⟩; have n0_ := Aside0.mk (Kd.R_lower ho0 (below_size (bb_ HB))); have n1_ := Aside0.mk (below_step (bb_ HB) hb); clear HB; have HO452 := n0_; have HB := n1_; clear n0_ n1_; (try clear hb); (try clear hb2); (try clear hk); (try clear hi); (try clear ho0); obtain ⟨Ao65, co65, eo65⟩ := Kd.R_slice HO452.out; subst eo65))
     go_ret
     exact ⟨ew_, by repeat (first | (with_reducible first | exact HB.out | apply below_alloc | apply pw_below_drewN | apply below_drew1) | exact HB.out)⟩
    ·rw [if_neg c62] at H
     have c62b0 : (t450 == 1) = false := beq_eq_false_iff_ne.mpr c62
     have c62b1 : (t450 != 1) = true := bne_iff_ne.mpr c62
     obtain rfl := Option.some.inj H
     go_enter Try.func7, Try.ntmps7
     go_wp2_with (first | ((with_reducible refine gate_callee (f := 20) rfl ?_); refine gl_ (some 18) Try.func20 #[] ?_; (with_reducible refine (cohousinglaw29_head.calls k  true _ A5.out).mono ?_); rintro e w66 ⟨rfl, hb⟩; refine ⟨_, rfl, ?_⟩; have n0_ := Aside0.mk (below_step (bb_ HB) hb); clear HB; have HB := n0_; clear n0_; (try clear hb); (try clear hb2); (try clear hk); (try clear hi)) | ((with_reducible refine gate_callee (f := 22) rfl ?_); refine gl_ (some 27) Try.func22 #[.int .i64 a0, .int .i64 a1, .slice A2 l2.length c2] ?_; (with_reducible refine (charges_Bounds.calls a0 a1 _ _ l2 t449 t450 _ ?side1 ?side2 A8.out).mono ?_); (case side1 => exact cc_ ((Kd.C_below HR2.out HB.out))); (case side2 => exact HC2.out); rintro e w67 ⟨v451, rfl, ho0, hb⟩; refine ⟨_, rfl, ?_⟩; have n0_ := Aside0.mk (Kd.R_lower ho0 (below_size (bb_ HB))); have n1_ := Aside0.mk (below_step (bb_ HB) hb); clear HB; have HO452 := n0_; have HB := n1_; clear n0_ n1_; (try clear hb); (try clear hb2); (try clear hk); (try clear hi); (try clear ho0)))
     go_ret
     exact ⟨ew_, by repeat (first | (with_reducible first | exact HB.out | apply below_alloc | apply pw_below_drewN | apply below_drew1) | exact HB.out)⟩
   ·replace c61 := Bool.eq_false_iff.mpr c61
    subst c61
    have H1 : (some false) = some r := by rw [if_neg (show ¬ (false = true) by decide)] at H; exact H
    clear H
    have H := H1
    clear H1
    obtain rfl := Option.some.inj H
    go_enter Try.func7, Try.ntmps7
    go_wp2_with (first | ((with_reducible refine gate_callee (f := 20) rfl ?_); refine gl_ (some 18) Try.func20 #[] ?_; (with_reducible refine (cohousinglaw29_head.calls k  false _ A5.out).mono ?_); rintro e w68 ⟨rfl, hb⟩; refine ⟨_, rfl, ?_⟩; have n0_ := Aside0.mk (below_step (bb_ HB) hb); clear HB; have HB := n0_; clear n0_; (try clear hb); (try clear hb2); (try clear hk); (try clear hi)) | ((with_reducible refine gate_callee (f := 22) rfl ?_); refine gl_ (some 27) Try.func22 #[.int .i64 a0, .int .i64 a1, .slice A2 l2.length c2] ?_; (with_reducible refine (charges_Bounds.calls a0 a1 _ _ l2 t449 t450 _ ?side1 ?side2 A8.out).mono ?_); (case side1 => exact cc_ ((Kd.C_below HR2.out HB.out))); (case side2 => exact HC2.out); rintro e w69 ⟨v451, rfl, ho0, hb⟩; refine ⟨_, rfl, ?_⟩; have n0_ := Aside0.mk (Kd.R_lower ho0 (below_size (bb_ HB))); have n1_ := Aside0.mk (below_step (bb_ HB) hb); clear HB; have HO452 := n0_; have HB := n1_; clear n0_ n1_; (try clear hb); (try clear hb2); (try clear hk); (try clear hi); (try clear ho0)))
    go_ret
    exact ⟨ew_, by repeat (first | (with_reducible first | exact HB.out | apply below_alloc | apply pw_below_drewN | apply below_drew1) | exact HB.out)⟩
end
end Go.Proofs.Ytbgchacafglcpaa.P
end
section
namespace Go.Proofs.Ytbgchacafglcpaa.P
open Go.RowKit Go.Proofs.YtbgchacafglcpaaW.PrintWords Go.Proofs.YtbgchacafglcpaaW.PrintLast Go.Proofs.YtbgchacafglcpaaW.PrintMore Go.Proofs.YtbgchacafglcpaaH Go.Proofs.FlowTree
theorem Ev.of_monoI {α : Type} {f : Nat → Option α} {r : α} (k0 : Nat) (h0 : f k0 = some r) (h : ∀ k, LeO (f k) (f (k + 1))) : Ev f r := by
 refine ⟨k0, fun k hk => ?_⟩
 obtain ⟨d, rfl⟩ : ∃ d, k = k0 + d := ⟨k - k0, by omega⟩
 induction d with
 | zero => exact h0
 | succ d ih => exact h _ _ (ih (by omega))
theorem head_evI : Ev (fun k => cohousinglaw29_head.f k) true := Ev.of_monoI 60 (by kernel_rfl) (fun k => cohousinglaw29_head.mono k)
abbrev TW := S54
abbrev ww (b : List TW) (j : Nat) : TW := rd_T54 b (j : Int)
def narA (x : RGE) (b : TW) : RGE := ⟨min x.f1 (x.f0 + b.f0), max (min x.f1 (x.f0 + b.f0)) (x.f1 - b.f1)⟩
def mAt (l : List RGE) (b : List TW) (j : Nat) : RGE := if j < b.length then narA (qq l j) (ww b j) else qq l j
theorem qq_rng (f : Nat → RGE) (n j : Nat) (h : j < n) : qq ((List.range n).map f) j = f j := by
 simp [qq, rd_T38, List.getD_eq_getElem?_getD, h]
section
variable {c t : Int} {l : List RGE} {b : List TW}
theorem mAt_in (h : PartsOk c t l) (hb : ∀ x ∈ b, (0 ≤ x.f0 ∧ x.f0 ≤ 65535) ∧ (0 ≤ x.f1 ∧ x.f1 ≤ 65535)) {j : Nat} (hj : j < l.length) : (qq l j).f0 ≤ (mAt l b j).f0 ∧ (mAt l b j).f0 ≤ (mAt l b j).f1 ∧ (mAt l b j).f1 ≤ (qq l j).f1 := by
 have h1 := h.2.2.2.2.2 j hj
 unfold mAt
 by_cases hc : j < b.length
 ·rw [if_pos hc]
  have h2 := hb (ww b j) (by simp [ww, rd_T54, List.getD_eq_getElem?_getD, hc])
  simp only [narA]
  omega
 ·rw [if_neg hc]
  omega
theorem narrow_l1 (h : PartsOk c t l) (hb : ∀ x ∈ b, (0 ≤ x.f0 ∧ x.f0 ≤ 65535) ∧ (0 ≤ x.f1 ∧ x.f1 ≤ 65535)) : ∀ d i : Nat, i + d = l.length →
  Ev (fun k => cohousinglaw29_ChargesNarrower.l1 k true (l.map (chgR c t)) (((List.range l.length).map (mAt l b)).map (chgR c t)) (i : Int)) true := by
 intro d
 induction d with
 | zero =>
  intro i hi
  refine Ev.step ?_
  have h1 : ¬ ((i : Int) < ((l.map (chgR c t)).length : Int)) := by rw [List.length_map]; omega
  simp only [cohousinglaw29_ChargesNarrower.l1, h1, if_false]
  exact Ev.pure _
 | succ d ih =>
  intro i hi
  refine Ev.step ?_
  have hil : i < l.length := by omega
  have h1 : (i : Int) < ((l.map (chgR c t)).length : Int) := by rw [List.length_map]; omega
  have h2 : (0 : Int) ≤ (i : Int) := by omega
  have h3 : (i : Int) < ((((List.range l.length).map (mAt l b)).map (chgR c t)).length : Int) := by rw [List.length_map, List.length_map, List.length_range]; omega
  have e1 : rd_T38 (l.map (chgR c t)) (i : Int) = chgR c t (qq l i) := qq_map _ l i hil
  have e2 : rd_T38 (((List.range l.length).map (mAt l b)).map (chgR c t)) (i : Int) = chgR c t (mAt l b i) := by
   have := qq_map (chgR c t) ((List.range l.length).map (mAt l b)) i (by simpa using hil)
   rw [qq_rng _ _ _ hil] at this
   exact this
  have hm := mAt_in h hb hil
  have g1 : ¬ ((chgR c t (mAt l b i)).f0 < (chgR c t (qq l i)).f0) := by have := right_mono h.1 h.2.2.1 hm.1; simp only [chgR]; omega
  have g2 : ¬ ((chgR c t (mAt l b i)).f1 > (chgR c t (qq l i)).f1) := by have := right_mono h.1 h.2.2.1 hm.2.2; simp only [chgR]; omega
  have g3 : ¬ ((chgR c t (mAt l b i)).f0 > (chgR c t (mAt l b i)).f1) := by have := right_mono h.1 h.2.2.1 hm.2.1; simp only [chgR]; omega
  have hn : l.length ≤ 200 := h.2.2.2.2.1
  simp only [cohousinglaw29_ChargesNarrower.l1, h1, h2, h3, e1, e2, g1, g2, g3, if_true, if_false, wrap_nat (show i ≤ 140737488355328 by omega)]
  exact ih (i + 1) (by omega)
theorem narrow_l0 (h : PartsOk c t l) (hb : ∀ x ∈ b, (0 ≤ x.f0 ∧ x.f0 ≤ 65535) ∧ (0 ≤ x.f1 ∧ x.f1 ≤ 65535)) : ∀ d i : Nat, i + d = l.length →
  Ev (fun k => cohousinglaw29_ChargesNarrower.l0 k c t l b true (l.map (chgR c t)) ((List.range i).map (mAt l b)) (i : Int)) true := by
 have hn : l.length ≤ 200 := h.2.2.2.2.1
 intro d
 induction d with
 | zero =>
  intro i hi
  have e : i = l.length := by omega
  subst e
  refine Ev.step ?_
  have h1 : ¬ ((l.length : Int) < (l.length : Int)) := by omega
  have hm : PartsOk c t ((List.range l.length).map (mAt l b)) := by
   obtain ⟨p1, p2, p3, p4, p5, p6⟩ := h
   refine ⟨p1, p2, p3, p4, by simpa using p5, fun j hj => ?_⟩
   rw [List.length_map, List.length_range] at hj
   rw [qq_rng _ _ _ hj]
   have := p6 j hj
   have := mAt_in ⟨p1, p2, p3, p4, p5, p6⟩ hb hj
   omega
  have e1 : ((l.map (chgR c t)).length : Int) = (l.length : Int) := by rw [List.length_map]
  have e2 : ((((List.range l.length).map (mAt l b)).map (chgR c t)).length : Int) = (l.length : Int) := by rw [List.length_map, List.length_map, List.length_range]
  simp only [cohousinglaw29_ChargesNarrower.l0, h1, if_false, charges_Bounds.f, Option.bind_some, boundsC_ok hm, if_true, e1, e2, bne_self_eq_false]
  refine Ev.step ?_
  simp only [cohousinglaw29_ChargesNarrower.j1, Bool.false_eq_true, if_false]
  exact narrow_l1 h hb l.length 0 (by omega)
 | succ d ih =>
  intro i hi
  refine Ev.step ?_
  have hil : i < l.length := by omega
  have h1 : (i : Int) < (l.length : Int) := by omega
  have h2 : (0 : Int) ≤ (i : Int) := by omega
  have h3 : ((List.range i).map (mAt l b)).length < 8796093022208 := by rw [List.length_map, List.length_range]; omega
  have hp := h.2.2.2.2.2 i hil
  have ht : t ≤ 1000000000 := h.2.2.2.1
  have hih := ih (i + 1) (by omega)
  rw [List.range_succ, List.map_append] at hih
  by_cases hc : i < b.length
  ·have h4 : (i : Int) < (b.length : Int) := by omega
   have hw := hb (ww b i) (by simp [ww, rd_T54, List.getD_eq_getElem?_getD, hc])
   have e0 : wrap64 (ww b i).f0 = (ww b i).f0 := wrap_id' (by omega) (by omega)
   have e1 : wrap64 (ww b i).f1 = (ww b i).f1 := wrap_id' (by omega) (by omega)
   have e2 : wrap64 ((qq l i).f0 + (ww b i).f0) = (qq l i).f0 + (ww b i).f0 := wrap_id' (by omega) (by omega)
   have e3 : wrap64 ((qq l i).f1 - (ww b i).f1) = (qq l i).f1 - (ww b i).f1 := wrap_id' (by omega) (by omega)
   have em : (⟨mn (rd_T38 l (i : Int)).f1 (wrap64 ((rd_T38 l (i : Int)).f0 + wrap64 (rd_T54 b (i : Int)).f0)), mx (mn (rd_T38 l (i : Int)).f1 (wrap64 ((rd_T38 l (i : Int)).f0 + wrap64 (rd_T54 b (i : Int)).f0))) (wrap64 ((rd_T38 l (i : Int)).f1 - wrap64 (rd_T54 b (i : Int)).f1))⟩ : RGE) = mAt l b i := by
    show (⟨mn (qq l i).f1 (wrap64 ((qq l i).f0 + wrap64 (ww b i).f0)), mx (mn (qq l i).f1 (wrap64 ((qq l i).f0 + wrap64 (ww b i).f0))) (wrap64 ((qq l i).f1 - wrap64 (ww b i).f1))⟩ : RGE) = mAt l b i
    rw [e0, e1, e2, e3, mn_min', mx_max']
    unfold mAt
    rw [if_pos hc]
    rfl
   simp only [cohousinglaw29_ChargesNarrower.l0, h1, h2, h3, h4, if_true, wrap_nat (show i ≤ 140737488355328 by omega)]
   rw [em]
   exact hih
  ·have h4 : ¬ ((i : Int) < (b.length : Int)) := by omega
   have em : mAt l b i = qq l i := by unfold mAt; rw [if_neg hc]
   simp only [List.map_cons, List.map_nil, em] at hih
   simp only [cohousinglaw29_ChargesNarrower.l0, h1, h2, h3, h4, if_true, if_false, wrap_nat (show i ≤ 140737488355328 by omega)]
   exact hih
theorem narrow_ (l : List RGE) (b : List TW) (hb : ∀ x ∈ b, (0 ≤ x.f0 ∧ x.f0 ≤ 65535) ∧ (0 ≤ x.f1 ∧ x.f1 ≤ 65535)) (c t : Int) : Ev (fun k => cohousinglaw29_ChargesNarrower.f k c t l b) true := by
 unfold cohousinglaw29_ChargesNarrower.f
 refine Ev.bnd head_evI ?_
 by_cases h20 : (l.length : Int) > 20
 ·simp only [h20, if_true]
  exact Ev.pure _
 simp only [h20, if_false, charges_Bounds.f, Option.bind_some]
 by_cases h : PartsOk c t l
 ·rw [boundsC_ok h]
  simp only [if_true]
  exact narrow_l0 h hb l.length 0 (by omega)
 ·rw [boundsC_no h]
  have e : ((1 : Int) = 0) = False := by simp
  simp only [e, if_false, if_true, List.length_nil]
  exact Ev.pure _
end
end Go.Proofs.Ytbgchacafglcpaa.P
end
section
namespace Go.Proofs.YtbgchacafglcpaaH
open Go.RowKit Go.ChangeShapes Go.WideShapes Go.Proofs.YtbgchacafglcpaaW.PrintWords
theorem trod_two {P : Program} {t e : TypeId} {k : IntKind} (ht : P.underlying t = some (.array 2 e)) (hu : P.underlying e = some (.int k)) (hc : P.cellsOf e = 1) (hct : P.cellsOf t = 2) {H : Type} {enc : TypeId × Value → H} {w : World} {base : Nat} {spare : Nat → Bool} {held : Bool} {fuel : Nat} {cs : List Value} {x : DataW H × List MemPlace}
  (hx : DataW.trod enc P w base spare held fuel t cs = some x) : ∃ a b, cs = [.int k a, .int k b] ∧ (Lit.int k a).wf = true ∧ (Lit.int k b).wf = true := by
 obtain ⟨xs, m, _, _, hl, hxl, hf⟩ := DataW.trod_array ht hx
 rw [hct] at hl
 rw [hc] at hf
 have h0 := hf 0 (by omega)
 have h1 := hf 1 (by omega)
 have e0 : xs[0]? = some (xs[0]'(by omega)) := by simp [hxl]
 have e1 : xs[1]? = some (xs[1]'(by omega)) := by simp [hxl]
 rw [e0] at h0
 rw [e1] at h1
 obtain ⟨a, ha, _, wa⟩ := DataW.trod_int hu h0
 obtain ⟨b, hb, _, wb⟩ := DataW.trod_int hu h1
 refine ⟨a, b, ?_, wa, wb⟩
 match cs, hl, ha, hb with
 | [u, v], _, ha, hb =>
  simp at ha hb
  rw [ha, hb]
theorem Opens.twoR {P : Program} {t e : TypeId} {k : IntKind} (lo hi : Int) (hwf : ∀ {n : Int}, (Lit.int k n).wf = true → lo ≤ n ∧ n ≤ hi) (ht : P.underlying t = some (.array 2 e)) (hu : P.underlying e = some (.int k)) (hc : P.cellsOf e = 1) (hct : P.cellsOf t = 2) :
  Opens P (Kd.iso (Kd.pair (Kd.int k) (Kd.int k)) (fun x : {p : Int × Int // (lo ≤ p.1 ∧ p.1 ≤ hi) ∧ (lo ≤ p.2 ∧ p.2 ≤ hi)} => x.1)) t := by
 intro H enc w base spare held fuel cs x hx
 obtain ⟨a, b, rfl, wa, wb⟩ := trod_two ht hu hc hct hx
 exact ⟨⟨(a, b), hwf wa, hwf wb⟩, [.int k a], [.int k b], rfl, rfl, rfl⟩
theorem C_map {α β : Type} {d : Kd α} {d' : Kd β} (f : α → β) (hs : d'.sz = d.sz) (hK : ∀ w x cs, d.K w x cs → d'.K w (f x) cs) {w : World} {A : Option Addr} {n : Nat} {xs : List α} (h : d.C w A n xs) : d'.C w A n (xs.map f) := by
 refine ⟨by rw [List.length_map]; exact h.1, h.2.1, fun hn => ?_⟩
 obtain ⟨ad, e, hj⟩ := h.2.2 hn
 refine ⟨ad, e, fun j q hq => ?_⟩
 rw [List.getElem?_map] at hq
 obtain ⟨p, hp, rfl⟩ := Option.map_eq_some_iff.1 hq
 obtain ⟨cs, h1, h2, h3⟩ := hj j p hp
 exact ⟨cs, by rw [hs]; exact h1, hK _ _ _ h2, fun i u hu => by rw [hs]; exact h3 i u hu⟩
theorem open_two {P : Program} {t s e : TypeId} {k : IntKind} {β : Type} {d' : Kd β} (mk : Int → Int → β) (f0 f1 : β → Int) (h0 : ∀ a b, f0 (mk a b) = a) (h1 : ∀ a b, f1 (mk a b) = b) (hsz' : d'.sz = 2) (hK : ∀ (w : World) a b cs, (Kd.pair (Kd.int k) (Kd.int k)).K w (a, b) cs → d'.K w (mk a b) cs)
  (lo hi : Int) (hwf : ∀ {n : Int}, (Lit.int k n).wf = true → lo ≤ n ∧ n ≤ hi) (hs : P.underlying s = some (.slice t)) (ht : P.underlying t = some (.array 2 e)) (hu : P.underlying e = some (.int k)) (hc : P.cellsOf e = 1) (hct : P.cellsOf t = 2) {H : Type} {enc : TypeId × Value → H} {w : World} {base : Nat} {spare : Nat → Bool} {held : Bool} {A : Option Addr} {len cap : Nat} {x : DataW H} {ps : List MemPlace}
  (hx : DataW.Trod enc P w base spare held s (.slice A len cap) x ps) : ∃ xs : List β, xs.length = len ∧ len ≤ cap ∧ d'.C w A len xs ∧ ∀ x ∈ xs, (lo ≤ f0 x ∧ f0 x ≤ hi) ∧ (lo ≤ f1 x ∧ f1 x ≤ hi) := by
 obtain ⟨xs, g1, g2, g3⟩ := open_arg (d := Kd.iso (Kd.pair (Kd.int k) (Kd.int k)) (fun x : {p : Int × Int // (lo ≤ p.1 ∧ p.1 ≤ hi) ∧ (lo ≤ p.2 ∧ p.2 ≤ hi)} => x.1)) hs hct (Opens.twoR lo hi hwf ht hu hc hct) hx
 refine ⟨xs.map (fun x => mk x.1.1 x.1.2), by rw [List.length_map]; exact g1, g2, C_map _ hsz' (fun w x cs h => hK w x.1.1 x.1.2 cs h) g3, fun y hy => ?_⟩
 obtain ⟨z, _, rfl⟩ := List.mem_map.1 hy
 rw [h0, h1]
 exact z.2
end Go.Proofs.YtbgchacafglcpaaH
end
