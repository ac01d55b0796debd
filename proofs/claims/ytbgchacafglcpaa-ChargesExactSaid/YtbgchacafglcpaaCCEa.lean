/- Part 1 of the proof of ChargesExact: what it alone needs. -/
import Derived.Test.YtbgchacafglcpaaCBe
set_option linter.unusedVariables false
set_option linter.unusedSimpArgs false
section
namespace Go.Proofs.Ytbgchacafglcpaa.P
open Go.RowKit Go.Proofs.YtbgchacafglcpaaW.PrintWords Go.Proofs.YtbgchacafglcpaaW.PrintLast Go.Proofs.YtbgchacafglcpaaW.PrintMore
attribute [local go_sem] max2_int min2_int max_two min_two max_three min_three max_four min_four
set_option linter.unusedVariables false
set_option linter.unusedSimpArgs false
mutual
def cohousinglaw29_ChargesExact.l0 : Nat → Int → List Int → Bool → Int → List (S38) → List Int → Int → Option (Bool)
 | 0, _, _, _, _, _, _, _ => none
 | k + 1, x0, x1, x5, x6, x7, x8, x9 => if x9 < (x1.length : Int) then (if 0 ≤ x9 then (if x7.length < 8796093022208 then (if x8.length < 17592186044416 then (cohousinglaw29_ChargesExact.l0 k x0 x1 x5 (wrap64 (x6 + (Int.tmod (wrap64 (rd x1 x9)) 40001))) (x7 ++ [(⟨Int.tmod (wrap64 (rd x1 x9)) 40001, Int.tmod (wrap64 (rd x1 x9)) 40001⟩ : S38)]) (x8 ++ [wrap64 (x9 + 1)]) (wrap64 (x9 + 1))) else (none)) else (none)) else (none)) else ((charges_Share.f (Int.tmod (wrap64 (x0)) 1000000001) x6 x8 x7).bind fun bt457 => (if x6 = 0 then (if x5 = true then (if bt457.2.2 = 1 then (some ((bt457.1.length : Int) == 0)) else (some false)) else (some false)) else (cohousinglaw29_ChargesExact.l1 k x5 x7 bt457.1 bt457.2.1 bt457.2.2 0)))
def cohousinglaw29_ChargesExact.l1 : Nat → Bool → List (S38) → List (S43) → Int → Int → Int → Option (Bool)
 | 0, _, _, _, _, _, _ => none
 | k + 1, x5, x7, x11, x12, x13, x14 => if x14 < (x11.length : Int) then (if 0 ≤ x14 then (if ((rd_T43 x11 x14).f3 = true) then (cohousinglaw29_ChargesExact.l1 k x5 x7 x11 x12 x13 (wrap64 (x14 + 1))) else (some false)) else (none)) else (if x5 = true then (if x13 = 0 then (if (x11.length : Int) = (x7.length : Int) then (if (wrap64 (2 * x12)) ≤ (x7.length : Int) then (some (decide ((wrap64 ((-2) * x12)) ≤ (x7.length : Int)))) else (some false)) else (some false)) else (some false)) else (some false))
def cohousinglaw29_ChargesExact.l2 : Nat → Int → List Int → Bool → Int → List (S38) → List Int → Int → Option (Bool)
 | 0, _, _, _, _, _, _, _ => none
 | k + 1, x0, x1, x5, x6, x7, x8, x9 => if x9 < (x1.length : Int) then (if 0 ≤ x9 then (if x7.length < 8796093022208 then (if x8.length < 17592186044416 then (cohousinglaw29_ChargesExact.l2 k x0 x1 x5 (wrap64 (x6 + (Int.tmod (wrap64 (rd x1 x9)) 40001))) (x7 ++ [(⟨Int.tmod (wrap64 (rd x1 x9)) 40001, Int.tmod (wrap64 (rd x1 x9)) 40001⟩ : S38)]) (x8 ++ [wrap64 (x9 + 1)]) (wrap64 (x9 + 1))) else (none)) else (none)) else (none)) else ((charges_Share.f (Int.tmod (wrap64 (x0)) 1000000001) x6 x8 x7).bind fun bt470 => (if x6 = 0 then (if x5 = true then (if bt470.2.2 = 1 then (some ((bt470.1.length : Int) == 0)) else (some false)) else (some false)) else (cohousinglaw29_ChargesExact.l3 k x5 x7 bt470.1 bt470.2.1 bt470.2.2 0)))
def cohousinglaw29_ChargesExact.l3 : Nat → Bool → List (S38) → List (S43) → Int → Int → Int → Option (Bool)
 | 0, _, _, _, _, _, _ => none
 | k + 1, x5, x7, x11, x12, x13, x14 => if x14 < (x11.length : Int) then (if 0 ≤ x14 then (if ((rd_T43 x11 x14).f3 = true) then (cohousinglaw29_ChargesExact.l3 k x5 x7 x11 x12 x13 (wrap64 (x14 + 1))) else (some false)) else (none)) else (if x5 = true then (if x13 = 0 then (if (x11.length : Int) = (x7.length : Int) then (if (wrap64 (2 * x12)) ≤ (x7.length : Int) then (some (decide ((wrap64 ((-2) * x12)) ≤ (x7.length : Int)))) else (some false)) else (some false)) else (some false)) else (some false))
end
def cohousinglaw29_ChargesExact.f (k : Nat) (a0 : Int) (l1 : List Int) : Option (Bool) := (cohousinglaw29_head.f k).bind fun t448 => (if (l1.length : Int) > 20 then (if 20 ≤ (l1.length : Int) then (cohousinglaw29_ChargesExact.l0 k a0 (l1.take 20) t448 0 ([] : List (S38)) ([] : List Int) 0) else (none)) else (cohousinglaw29_ChargesExact.l2 k a0 l1 t448 0 ([] : List (S38)) ([] : List Int) 0))
set_option maxHeartbeats 8000000 in
set_option maxRecDepth 100000 in
theorem cohousinglaw29_ChargesExact.calls (k : Nat) (a0 : Int) (A1 : Option Addr) (c1 : Nat) (l1 : List Int) (r : Bool) (w : World) (hr1 : Kd.C (Kd.int .u16) w A1 l1.length l1) (hc1 : l1.length ≤ c1) (h : cohousinglaw29_ChargesExact.f k a0 l1 = some r) :
  Calls Try.prog 8 #[.int .u32 a0, .slice A1 l1.length c1] w fun e w' => e = .returned (.bool r) ∧ Below w.heap.size w w' := by
 have hu38 := Try.underlying38
 have HR1 := Aside0.mk hr1
 have HC1 := Aside0.mk hc1
 clear hr1 hc1
 have HB := Aside0.mk (Below.refl w.heap.size w)
 have H : ((cohousinglaw29_head.f k).bind fun t448 => (if (l1.length : Int) > 20 then (if 20 ≤ (l1.length : Int) then (cohousinglaw29_ChargesExact.l0 k a0 (l1.take 20) t448 0 ([] : List (S38)) ([] : List Int) 0) else (none)) else (cohousinglaw29_ChargesExact.l2 k a0 l1 t448 0 ([] : List (S38)) ([] : List Int) 0))) = some r := h
 clear h
 replace H := Option.bind_eq_some_iff.mp H
 obtain ⟨t448, A30, H⟩ := H
 replace H : (if (l1.length : Int) > 20 then (if 20 ≤ (l1.length : Int) then (cohousinglaw29_ChargesExact.l0 k a0 (l1.take 20) t448 0 ([] : List (S38)) ([] : List Int) 0) else (none)) else (cohousinglaw29_ChargesExact.l2 k a0 l1 t448 0 ([] : List (S38)) ([] : List Int) 0)) = some r := H
 have A3 := Aside0.mk A30
 clear A30
 by_cases c4 : (l1.length : Int) > 20
 ·rw [if_pos c4] at H
  have c4b0 : decide (20 < (l1.length : Int)) = true := decide_eq_true c4
  have c4b1 : decide (20 < l1.length) = true := decide_eq_true (by omega)
  clear c4
  by_cases c5 : 20 ≤ (l1.length : Int)
  ·rw [if_pos c5] at H
   have c5b0 := eq_true c5
   have c5b1 : decide (20 ≤ (l1.length : Int)) = true := decide_eq_true c5
   clear c5
   have H' := Aside0.mk H
   clear H
   go_enter Try.func8, Try.ntmps8
   go_wp2_with (first | ((with_reducible refine gate_callee (f := 20) rfl ?_); refine goesL_ (some 15) rfl rfl Try.func20 (by kernel_rfl) rfl #[] rfl (by (try simp only [List.map_toArray, List.map_cons, List.map_nil]); first | done | rfl | (simp only [List.length_drop, List.length_take]; rfl)) ?_; (with_reducible refine (cohousinglaw29_head.calls k  t448 _ A3.out).mono ?_); rintro e w6 ⟨rfl, hb⟩; refine ⟨_, rfl, ?_⟩; have n0_ := Aside0.mk (below_step (by repeat (first | (with_reducible first | exact HB.out | apply below_alloc | apply pw_below_drewN | apply below_drew1) | exact HB.out)) hb); clear HB; have HB := n0_; clear n0_; (try clear hb); (try clear hb2); (try clear hk); (try clear hi); obtain ⟨i07, hi07, _, hsz7, _⟩ := info_parts info53; obtain ⟨hcut7, hA7, hC7⟩ := print_take_of (P := Try.prog) (Value.int .u16) 0 57 53 .i64 Try.underlying57 hi07 hsz7 A1 c1 l1 20 (by omega) (of_decide_eq_true (by first | (with_reducible assumption) | assumption)) HC1.out; have HR449 := Aside0.mk (Kd.C_of_reads (h1 := fun _ => rfl) (hA7 _ (Kd.reads_of_C HR1.out))); have HC449 := Aside0.mk hC7; clear hA7 hC7 hi07 hsz7))
   go_loopg [6, 7, 8, 9] k (fun kq v6 v7 v8 v9 w' => ∃ (x6_1 : Int) (x7_1 : List (S38)) (x8_1 : List Int) (x9_1 : Int), v6 = .int .i64 x6_1 ∧ v9 = .int .i64 x9_1 ∧ Aside0 (cohousinglaw29_ChargesExact.l0 kq a0 (l1.take 20) t448 x6_1 x7_1 x8_1 x9_1 = some r) ∧ Aside0 (kq ≤ k) ∧ Aside0 (Kd.R k38 38 w' w.heap.size (fun _ => True) v7 x7_1) ∧ Aside0 (Kd.R (Kd.int .i64) 3 w' w.heap.size (fun _ => True) v8 x8_1) ∧ Aside0 (Below w.heap.size w w'))
   case atStart => exact ⟨(0), (([] : List (S38))), (([] : List Int)), (0), (by first | rfl | (simp; done) | (simp [*]; done)), (by first | rfl | (simp; done) | (simp [*]; done)), H', ⟨Nat.le_refl _⟩, ⟨by first | exact Kd.R_nil _ _ _ _ _ | exact Kd.N_nil _ _ _ _ _ | exact Kd.V_nil _ _ _ _ _ | exact Kd.Q_nil _ _ _ _ _ | exact Kd.S_nil _ _ _ _ _⟩, ⟨by first | exact Kd.R_nil _ _ _ _ _ | exact Kd.N_nil _ _ _ _ _ | exact Kd.V_nil _ _ _ _ _ | exact Kd.Q_nil _ _ _ _ _ | exact Kd.S_nil _ _ _ _ _⟩, ⟨by repeat (first | (with_reducible first | exact HB.out | apply below_alloc | apply pw_below_drewN | apply below_drew1) | exact HB.out)⟩⟩
   case round =>
    clear H'
    try clear c1
    try clear c2
    try clear p2
    try clear c4
    try clear c4b0
    try clear c4b1
    try clear c5
    try clear c5b0
    try clear c5b1
    obtain ⟨x6_1, x7_1, x8_1, x9_1, rfl, rfl, HA, HK1, HO_7, HO_8, HB⟩ := hrel
    cases gk with
    | zero => exact absurd HA.out (by simp [cohousinglaw29_ChargesExact.l0])
    | succ k1 =>
     have H := HA.out
     clear HA
     simp only [cohousinglaw29_ChargesExact.l0] at H
     by_cases c8 : x9_1 < ((l1.take 20).length : Int)
     ·rw [if_pos c8] at H
      have c8b0 : decide (x9_1 < ((l1.take 20).length : Int)) = true := decide_eq_true c8
      have c8b7 : decide (x9_1 < ((min 20 l1.length : Nat) : Int)) = true := by simpa only [List.length_take] using c8b0
      have c8b8 : (x9_1 < ((min 20 l1.length : Nat) : Int)) = True := eq_true (of_decide_eq_true c8b7)
      clear c8
      by_cases c9 : 0 ≤ x9_1
      ·rw [if_pos c9] at H
       have c9b0 : decide (0 ≤ x9_1) = true := decide_eq_true c9
       clear c9
       by_cases c10 : x7_1.length < 8796093022208
       ·rw [if_pos c10] at H
        have LMc10 := Aside0.mk c10
        clear c10
        obtain ⟨y451, hy451⟩ : ∃ y_ : List (S38), y_ = (x7_1 ++ [(⟨Int.tmod (wrap64 (rd (l1.take 20) x9_1)) 40001, Int.tmod (wrap64 (rd (l1.take 20) x9_1)) 40001⟩ : S38)]) := ⟨_, rfl⟩
        replace H : (if x8_1.length < 17592186044416 then (cohousinglaw29_ChargesExact.l0 k1 a0 (l1.take 20) t448 (wrap64 (x6_1 + (Int.tmod (wrap64 (rd (l1.take 20) x9_1)) 40001))) y451 (x8_1 ++ [wrap64 (x9_1 + 1)]) (wrap64 (x9_1 + 1))) else (none)) = some r := by first | (rw [hy451]; with_reducible exact H) | (have H2_ := (Option.bind_some _ _).symm.trans H; rw [hy451]; with_reducible exact H2_) | (have H2_ := (Option.bind_some _ _).symm.trans H; with_reducible exact H2_) | with_reducible exact H | (rw [hy451]; exact H) | exact H
        have Ny451 := Aside0.mk hy451
        clear hy451
        by_cases c11 : x8_1.length < 17592186044416
        ·rw [if_pos c11] at H
         have LMc11 := Aside0.mk c11
         clear c11
         obtain ⟨y454, hy454⟩ : ∃ y_ : List Int, y_ = (x8_1 ++ [wrap64 (x9_1 + 1)]) := ⟨_, rfl⟩
         replace H : (cohousinglaw29_ChargesExact.l0 k1 a0 (l1.take 20) t448 (wrap64 (x6_1 + (Int.tmod (wrap64 (rd (l1.take 20) x9_1)) 40001))) y451 y454 (wrap64 (x9_1 + 1))) = some r := by first | (rw [hy454]; with_reducible exact H) | (have H2_ := (Option.bind_some _ _).symm.trans H; rw [hy454]; with_reducible exact H2_) | (have H2_ := (Option.bind_some _ _).symm.trans H; with_reducible exact H2_) | with_reducible exact H | (rw [hy454]; exact H) | exact H
         have Ny454 := Aside0.mk hy454
         clear hy454
         have H' := Aside0.mk H
         clear H
         have p450 : 0 ≤ (x9_1 : Int) := of_decide_eq_true (by first | (with_reducible assumption) | assumption)
         have q450 : x9_1 < ((l1.take 20).length : Int) := of_decide_eq_true (by first | (with_reducible assumption) | assumption)
         obtain ⟨ad450, e450, hx450_0⟩ := Kd.at_int HR449.out x9_1 p450 q450
         cases e450
         replace hx450_0 := (HB.out.cell (World.block_lt_of_cell? w _ hx450_0)).trans hx450_0
         replace p450 := eq_true p450
         replace q450 := eq_true q450
         go_wp2_with (first | ((with_reducible refine gate_builtin (b := .append) (xs := #[.tmp 36, .tmp 40]) rfl ?_); (try (refine gate_guard (by rfl) ?_; dsimp only)); at_builtin; refine Kd.R_append k38 (w0 := w) w.heap.size rfl (.tmp 36) (.tmp 40) 23 38 (.agg #[(.int .i64 0), (.int .i64 0)]) 16 rfl Try.underlying23 info38 rfl (by decide) (by omega) u7 x7_1 (⟨Int.tmod (wrap64 (rd (l1.take 20) x9_1)) 40001, Int.tmod (wrap64 (rd (l1.take 20) x9_1)) 40001⟩ : S38) [.int .i64 (Int.tmod (wrap64 (rd (l1.take 20) x9_1)) 40001), .int .i64 (Int.tmod (wrap64 (rd (l1.take 20) x9_1)) 40001)] (fun _ => True) (fun _ => False) rfl rfl ?aP (fun _ hk => hk.elim) ?aF ?aO ?aB ?aS ?aL ?_; (case aP => exact k38_mkM _ _ _ (⟨Int.tmod (wrap64 (rd (l1.take 20) x9_1)) 40001, Int.tmod (wrap64 (rd (l1.take 20) x9_1)) 40001⟩ : S38)); (case aB => exact (by repeat (first | (with_reducible first | exact HB.out | apply below_alloc | apply pw_below_drewN | apply below_drew1) | exact HB.out))); (case aF => exact (fun _ _ => trivial)); (case aO => exact (by (with_reducible repeat (first | apply Kd.R_alloc | apply Kd.R_drewN | apply Kd.R_drew)); exact HO_7.out)); (case aS => exact (below_size (by repeat (first | (with_reducible first | exact HB.out | apply below_alloc | apply pw_below_drewN | apply below_drew1) | exact HB.out)))); (case aL => have := LMc10.out; omega); intro v452 w12 ho hb hg hat; rw [← Ny451.out] at ho; have n0_ := Aside0.mk (Kd.R_over' (by (with_reducible repeat (first | apply Kd.R_alloc | apply Kd.R_drewN | apply Kd.R_drew)); exact HO_8.out) (Kd.R_typed (by (with_reducible repeat (first | apply Kd.R_alloc | apply Kd.R_drewN | apply Kd.R_drew)); exact HO_7.out)) (by decide) hg); have n1_ := Aside0.mk (hb); have n2_ := Aside0.mk (ho); clear HO_8; clear HB; clear HO_7; have HO_8 := n0_; have HB := n1_; have HO453 := n2_; clear n0_ n1_ n2_; clear ho hb hg hat) | ((with_reducible refine gate_builtin (b := .append) (xs := #[.tmp 42, .tmp 45]) rfl ?_); (try (refine gate_guard (by rfl) ?_; dsimp only)); at_builtin; refine Kd.R_append (Kd.int .i64) (w0 := w) w.heap.size rfl (.tmp 42) (.tmp 45) 24 3 (.int .i64 0) 8 rfl Try.underlying24 info3 rfl (by decide) (by omega) u8 x8_1 (wrap64 (x9_1 + 1)) [.int .i64 (wrap64 (x9_1 + 1))] (fun _ => True) (fun _ => False) rfl rfl ?aP (fun _ hk => hk.elim) ?aF ?aO ?aB ?aS ?aL ?_; (case aP => exact rfl); (case aB => exact (by repeat (first | (with_reducible first | exact HB.out | apply below_alloc | apply pw_below_drewN | apply below_drew1) | exact HB.out))); (case aF => exact (fun _ _ => trivial)); (case aO => exact (by (with_reducible repeat (first | apply Kd.R_alloc | apply Kd.R_drewN | apply Kd.R_drew)); exact HO_8.out)); (case aS => exact (below_size (by repeat (first | (with_reducible first | exact HB.out | apply below_alloc | apply pw_below_drewN | apply below_drew1) | exact HB.out)))); (case aL => have := LMc11.out; omega); intro v455 w13 ho hb hg hat; rw [← Ny454.out] at ho; have n0_ := Aside0.mk (Kd.R_over' (by (with_reducible repeat (first | apply Kd.R_alloc | apply Kd.R_drewN | apply Kd.R_drew)); exact HO453.out) (Kd.R_typed (by (with_reducible repeat (first | apply Kd.R_alloc | apply Kd.R_drewN | apply Kd.R_drew)); exact HO_8.out)) (by decide) hg); have n1_ := Aside0.mk (hb); have n2_ := Aside0.mk (ho); clear HO453; clear HB; clear HO_8; have HO453 := n0_; have HB := n1_; have HO456 := n2_; clear n0_ n1_ n2_; clear ho hb hg hat))
         go_roundg k1
         case measure => have := HK1.out; omega
         case rel => exact ⟨(wrap64 (x6_1 + (Int.tmod (wrap64 (rd (l1.take 20) x9_1)) 40001))), (y451), (y454), (wrap64 (x9_1 + 1)), (by first | rfl | (simp; done) | (simp [*]; done)), (by first | rfl | (simp; done) | (simp [*]; done)), H', ⟨by have := HK1.out; omega⟩, ⟨by (with_reducible repeat (first | apply Kd.R_alloc | apply Kd.R_drewN | apply Kd.R_drew)); exact HO453.out⟩, ⟨by (with_reducible repeat (first | apply Kd.R_alloc | apply Kd.R_drewN | apply Kd.R_drew)); exact HO456.out⟩, ⟨by repeat (first | (with_reducible first | exact HB.out | apply below_alloc | apply pw_below_drewN | apply below_drew1) | exact HB.out)⟩⟩
        ·rw [if_neg c11] at H
         exact absurd H (by simp)
       ·rw [if_neg c10] at H
        exact absurd H (by simp)
      ·rw [if_neg c9] at H
       exact absurd H (by simp)
     ·rw [if_neg c8] at H
      have c8b0 : decide (x9_1 < ((l1.take 20).length : Int)) = false := decide_eq_false c8
      have c8b7 : decide (x9_1 < ((min 20 l1.length : Nat) : Int)) = false := by simpa only [List.length_take] using c8b0
      clear c8
      replace H := Option.bind_eq_some_iff.mp H
      obtain ⟨⟨t457, t458, t459⟩, A140, H⟩ := H
      replace H : (if x6_1 = 0 then (if t448 = true then (if t459 = 1 then (some ((t457.length : Int) == 0)) else (some false)) else (some false)) else (cohousinglaw29_ChargesExact.l1 k1 t448 x7_1 t457 t458 t459 0)) = some r := H
      have A14 := Aside0.mk A140
      clear A140
      by_cases c15 : x6_1 = 0
      ·rw [if_pos c15] at H
       have c15b0 : (x6_1 == 0) = true := beq_iff_eq.mpr c15
       have c15b1 : (x6_1 != 0) = false := bne_eq_false_iff_eq.mpr c15
       clear c15
       by_cases c16 : t448 = true
       ·subst c16
        have H1 : (if t459 = 1 then (some ((t457.length : Int) == 0)) else (some false)) = some r := by rw [if_pos rfl] at H; exact H
        clear H
        have H := H1
        clear H1
        by_cases c17 : t459 = 1
        ·rw [if_pos c17] at H
         have c17b0 : (t459 == 1) = true := beq_iff_eq.mpr c17
         have c17b1 : (t459 != 1) = false := bne_eq_false_iff_eq.mpr c17
         clear c17
         obtain rfl := Option.some.inj H
         obtain ⟨Ao18, co18, eo18⟩ := Kd.R_slice HO_8.out
         subst eo18
         obtain ⟨Ao19, co19, eo19⟩ := Kd.R_slice HO_7.out
         subst eo19
         go_wp2_with (first | ((with_reducible refine gate_callee (f := 25) rfl ?_); refine goesL_ (some 54) rfl rfl Try.func25 (by kernel_rfl) rfl #[.int .i64 (Int.tmod (wrap64 (a0)) 1000000001), .int .i64 x6_1, .slice Ao18 x8_1.length co18, .slice Ao19 x7_1.length co19] rfl (by (try simp only [List.map_toArray, List.map_cons, List.map_nil]); first | done | rfl | (simp only [List.length_drop, List.length_take]; rfl)) ?_; (with_reducible refine (charges_Share.calls (Int.tmod (wrap64 (a0)) 1000000001) x6_1 _ _ x8_1 _ _ x7_1 t457 t458 t459 _ ?side1 ?side2 ?side3 ?side4 A14.out).mono ?_); (case side1 => repeat (first | exact (Kd.R_reads' HO_8.out).2.2 | (with_reducible refine Kd.C_alloc ?_ _) | (with_reducible refine Kd.C_drewN ?_ _) | (with_reducible refine Kd.C_drew ?_))); (case side2 => exact (Kd.R_reads' HO_8.out).2.1); (case side3 => repeat (first | exact (Kd.R_reads' HO_7.out).2.2 | (with_reducible refine Kd.C_alloc ?_ _) | (with_reducible refine Kd.C_drewN ?_ _) | (with_reducible refine Kd.C_drew ?_))); (case side4 => exact (Kd.R_reads' HO_7.out).2.1); rintro e w20 ⟨v460, rfl, ho0, hb⟩; refine ⟨_, rfl, ?_⟩; have n0_ := Aside0.mk (Kd.R_below (by (with_reducible repeat (first | apply Kd.R_alloc | apply Kd.R_drewN | apply Kd.R_drew)); exact HO_7.out) hb); have n1_ := Aside0.mk (Kd.R_below (by (with_reducible repeat (first | apply Kd.R_alloc | apply Kd.R_drewN | apply Kd.R_drew)); exact HO_8.out) hb); have n2_ := Aside0.mk (Kd.R_lower ho0 (below_size (by repeat (first | (with_reducible first | exact HB.out | apply below_alloc | apply pw_below_drewN | apply below_drew1) | exact HB.out)))); have n3_ := Aside0.mk (below_step (by repeat (first | (with_reducible first | exact HB.out | apply below_alloc | apply pw_below_drewN | apply below_drew1) | exact HB.out)) hb); clear HO_7; clear HO_8; clear HB; have HO_7 := n0_; have HO_8 := n1_; have HO461 := n2_; have HB := n3_; clear n0_ n1_ n2_ n3_; (try clear hb); (try clear hb2); (try clear hk); (try clear hi); (try clear ho0); obtain ⟨Ao21, co21, eo21⟩ := Kd.R_slice HO461.out; subst eo21))
         go_ret
         exact ⟨by first | rfl | (simp [errW_none, errW_some] <;> rfl) | (simp [*, errW_none, errW_some] <;> rfl), by repeat (first | (with_reducible first | exact HB.out | apply below_alloc | apply pw_below_drewN | apply below_drew1) | exact HB.out)⟩
        ·rw [if_neg c17] at H
         have c17b0 : (t459 == 1) = false := beq_eq_false_iff_ne.mpr c17
         have c17b1 : (t459 != 1) = true := bne_iff_ne.mpr c17
         obtain rfl := Option.some.inj H
         obtain ⟨Ao22, co22, eo22⟩ := Kd.R_slice HO_8.out
         subst eo22
         obtain ⟨Ao23, co23, eo23⟩ := Kd.R_slice HO_7.out
         subst eo23
         go_wp2_with (first | ((with_reducible refine gate_callee (f := 25) rfl ?_); refine goesL_ (some 54) rfl rfl Try.func25 (by kernel_rfl) rfl #[.int .i64 (Int.tmod (wrap64 (a0)) 1000000001), .int .i64 x6_1, .slice Ao22 x8_1.length co22, .slice Ao23 x7_1.length co23] rfl (by (try simp only [List.map_toArray, List.map_cons, List.map_nil]); first | done | rfl | (simp only [List.length_drop, List.length_take]; rfl)) ?_; (with_reducible refine (charges_Share.calls (Int.tmod (wrap64 (a0)) 1000000001) x6_1 _ _ x8_1 _ _ x7_1 t457 t458 t459 _ ?side1 ?side2 ?side3 ?side4 A14.out).mono ?_); (case side1 => repeat (first | exact (Kd.R_reads' HO_8.out).2.2 | (with_reducible refine Kd.C_alloc ?_ _) | (with_reducible refine Kd.C_drewN ?_ _) | (with_reducible refine Kd.C_drew ?_))); (case side2 => exact (Kd.R_reads' HO_8.out).2.1); (case side3 => repeat (first | exact (Kd.R_reads' HO_7.out).2.2 | (with_reducible refine Kd.C_alloc ?_ _) | (with_reducible refine Kd.C_drewN ?_ _) | (with_reducible refine Kd.C_drew ?_))); (case side4 => exact (Kd.R_reads' HO_7.out).2.1); rintro e w24 ⟨v460, rfl, ho0, hb⟩; refine ⟨_, rfl, ?_⟩; have n0_ := Aside0.mk (Kd.R_below (by (with_reducible repeat (first | apply Kd.R_alloc | apply Kd.R_drewN | apply Kd.R_drew)); exact HO_7.out) hb); have n1_ := Aside0.mk (Kd.R_below (by (with_reducible repeat (first | apply Kd.R_alloc | apply Kd.R_drewN | apply Kd.R_drew)); exact HO_8.out) hb); have n2_ := Aside0.mk (Kd.R_lower ho0 (below_size (by repeat (first | (with_reducible first | exact HB.out | apply below_alloc | apply pw_below_drewN | apply below_drew1) | exact HB.out)))); have n3_ := Aside0.mk (below_step (by repeat (first | (with_reducible first | exact HB.out | apply below_alloc | apply pw_below_drewN | apply below_drew1) | exact HB.out)) hb); clear HO_7; clear HO_8; clear HB; have HO_7 := n0_; have HO_8 := n1_; have HO461 := n2_; have HB := n3_; clear n0_ n1_ n2_ n3_; (try clear hb); (try clear hb2); (try clear hk); (try clear hi); (try clear ho0)))
         go_ret
         exact ⟨by first | rfl | (simp [errW_none, errW_some] <;> rfl) | (simp [*, errW_none, errW_some] <;> rfl), by repeat (first | (with_reducible first | exact HB.out | apply below_alloc | apply pw_below_drewN | apply below_drew1) | exact HB.out)⟩
       ·replace c16 := Bool.eq_false_iff.mpr c16
        subst c16
        have H1 : (some false) = some r := by rw [if_neg (show ¬ (false = true) by decide)] at H; exact H
        clear H
        have H := H1
        clear H1
        obtain rfl := Option.some.inj H
        obtain ⟨Ao25, co25, eo25⟩ := Kd.R_slice HO_8.out
        subst eo25
        obtain ⟨Ao26, co26, eo26⟩ := Kd.R_slice HO_7.out
        subst eo26
        go_wp2_with (first | ((with_reducible refine gate_callee (f := 25) rfl ?_); refine goesL_ (some 54) rfl rfl Try.func25 (by kernel_rfl) rfl #[.int .i64 (Int.tmod (wrap64 (a0)) 1000000001), .int .i64 x6_1, .slice Ao25 x8_1.length co25, .slice Ao26 x7_1.length co26] rfl (by (try simp only [List.map_toArray, List.map_cons, List.map_nil]); first | done | rfl | (simp only [List.length_drop, List.length_take]; rfl)) ?_; (with_reducible refine (charges_Share.calls (Int.tmod (wrap64 (a0)) 1000000001) x6_1 _ _ x8_1 _ _ x7_1 t457 t458 t459 _ ?side1 ?side2 ?side3 ?side4 A14.out).mono ?_); (case side1 => repeat (first | exact (Kd.R_reads' HO_8.out).2.2 | (with_reducible refine Kd.C_alloc ?_ _) | (with_reducible refine Kd.C_drewN ?_ _) | (with_reducible refine Kd.C_drew ?_))); (case side2 => exact (Kd.R_reads' HO_8.out).2.1); (case side3 => repeat (first | exact (Kd.R_reads' HO_7.out).2.2 | (with_reducible refine Kd.C_alloc ?_ _) | (with_reducible refine Kd.C_drewN ?_ _) | (with_reducible refine Kd.C_drew ?_))); (case side4 => exact (Kd.R_reads' HO_7.out).2.1); rintro e w27 ⟨v460, rfl, ho0, hb⟩; refine ⟨_, rfl, ?_⟩; have n0_ := Aside0.mk (Kd.R_below (by (with_reducible repeat (first | apply Kd.R_alloc | apply Kd.R_drewN | apply Kd.R_drew)); exact HO_7.out) hb); have n1_ := Aside0.mk (Kd.R_below (by (with_reducible repeat (first | apply Kd.R_alloc | apply Kd.R_drewN | apply Kd.R_drew)); exact HO_8.out) hb); have n2_ := Aside0.mk (Kd.R_lower ho0 (below_size (by repeat (first | (with_reducible first | exact HB.out | apply below_alloc | apply pw_below_drewN | apply below_drew1) | exact HB.out)))); have n3_ := Aside0.mk (below_step (by repeat (first | (with_reducible first | exact HB.out | apply below_alloc | apply pw_below_drewN | apply below_drew1) | exact HB.out)) hb); clear HO_7; clear HO_8; clear HB; have HO_7 := n0_; have HO_8 := n1_; have HO461 := n2_; have HB := n3_; clear n0_ n1_ n2_ n3_; (try clear hb); (try clear hb2); (try clear hk); (try clear hi); (try clear ho0)))
        go_ret
        exact ⟨by first | rfl | (simp [errW_none, errW_some] <;> rfl) | (simp [*, errW_none, errW_some] <;> rfl), by repeat (first | (with_reducible first | exact HB.out | apply below_alloc | apply pw_below_drewN | apply below_drew1) | exact HB.out)⟩
      ·rw [if_neg c15] at H
       have c15b0 : (x6_1 == 0) = false := beq_eq_false_iff_ne.mpr c15
       have c15b1 : (x6_1 != 0) = true := bne_iff_ne.mpr c15
       have H' := Aside0.mk H
       clear H
       obtain ⟨Ao28, co28, eo28⟩ := Kd.R_slice HO_8.out
       subst eo28
       obtain ⟨Ao29, co29, eo29⟩ := Kd.R_slice HO_7.out
       subst eo29
       go_wp2_with (first | ((with_reducible refine gate_callee (f := 25) rfl ?_); refine goesL_ (some 54) rfl rfl Try.func25 (by kernel_rfl) rfl #[.int .i64 (Int.tmod (wrap64 (a0)) 1000000001), .int .i64 x6_1, .slice Ao28 x8_1.length co28, .slice Ao29 x7_1.length co29] rfl (by (try simp only [List.map_toArray, List.map_cons, List.map_nil]); first | done | rfl | (simp only [List.length_drop, List.length_take]; rfl)) ?_; (with_reducible refine (charges_Share.calls (Int.tmod (wrap64 (a0)) 1000000001) x6_1 _ _ x8_1 _ _ x7_1 t457 t458 t459 _ ?side1 ?side2 ?side3 ?side4 A14.out).mono ?_); (case side1 => repeat (first | exact (Kd.R_reads' HO_8.out).2.2 | (with_reducible refine Kd.C_alloc ?_ _) | (with_reducible refine Kd.C_drewN ?_ _) | (with_reducible refine Kd.C_drew ?_))); (case side2 => exact (Kd.R_reads' HO_8.out).2.1); (case side3 => repeat (first | exact (Kd.R_reads' HO_7.out).2.2 | (with_reducible refine Kd.C_alloc ?_ _) | (with_reducible refine Kd.C_drewN ?_ _) | (with_reducible refine Kd.C_drew ?_))); (case side4 => exact (Kd.R_reads' HO_7.out).2.1); rintro e w30 ⟨v460, rfl, ho0, hb⟩; refine ⟨_, rfl, ?_⟩; have n0_ := Aside0.mk (Kd.R_below (by (with_reducible repeat (first | apply Kd.R_alloc | apply Kd.R_drewN | apply Kd.R_drew)); exact HO_7.out) hb); have n1_ := Aside0.mk (Kd.R_below (by (with_reducible repeat (first | apply Kd.R_alloc | apply Kd.R_drewN | apply Kd.R_drew)); exact HO_8.out) hb); have n2_ := Aside0.mk (Kd.R_lower ho0 (below_size (by repeat (first | (with_reducible first | exact HB.out | apply below_alloc | apply pw_below_drewN | apply below_drew1) | exact HB.out)))); have n3_ := Aside0.mk (below_step (by repeat (first | (with_reducible first | exact HB.out | apply below_alloc | apply pw_below_drewN | apply below_drew1) | exact HB.out)) hb); clear HO_7; clear HO_8; clear HB; have HO_7 := n0_; have HO_8 := n1_; have HO461 := n2_; have HB := n3_; clear n0_ n1_ n2_ n3_; (try clear hb); (try clear hb2); (try clear hk); (try clear hi); (try clear ho0)))
       go_loopg [14] k1 (fun kq v14 w' => ∃ (x14_2 : Int), v14 = .int .i64 x14_2 ∧ Aside0 (cohousinglaw29_ChargesExact.l1 kq t448 x7_1 t457 t458 t459 x14_2 = some r) ∧ Aside0 (kq ≤ k1) ∧ Aside0 (Kd.R k38 38 w' w.heap.size (fun _ => True) (.slice Ao29 x7_1.length co29) x7_1) ∧ Aside0 (Kd.R k43 43 w' w.heap.size (fun _ => True) v460 t457) ∧ Aside0 (Below w.heap.size w w'))
       case atStart => exact ⟨(0), (by first | rfl | (simp; done) | (simp [*]; done)), H', ⟨Nat.le_refl _⟩, ⟨by (with_reducible repeat (first | apply Kd.R_alloc | apply Kd.R_drewN | apply Kd.R_drew)); exact HO_7.out⟩, ⟨by (with_reducible repeat (first | apply Kd.R_alloc | apply Kd.R_drewN | apply Kd.R_drew)); exact HO461.out⟩, ⟨by repeat (first | (with_reducible first | exact HB.out | apply below_alloc | apply pw_below_drewN | apply below_drew1) | exact HB.out)⟩⟩
       case round =>
        clear H'
        try clear c1
        try clear c2
        try clear p2
        try clear c4
        try clear c4b0
        try clear c4b1
        try clear p4
        try clear q4
        try clear hx4
        try clear c5
        try clear c5b0
        try clear c5b1
        try clear p6
        try clear c8
        try clear c8b0
        try clear c9
        try clear c9b0
        try clear c10
        try clear c11
        try clear c15
        try clear c15b0
        try clear c15b1
        try clear c16
        try clear c17
        try clear c17b0
        try clear c17b1
        try clear c20
        try clear c25
        try clear hx450_0
        try clear p2
        try clear p450
        try clear q450
        obtain ⟨x14_2, rfl, HA, HK2, HO_7, HO_11, HB⟩ := hrel
        cases gk with
        | zero => exact absurd HA.out (by simp [cohousinglaw29_ChargesExact.l1])
        | succ k2 =>
         have H := HA.out
         clear HA
         simp only [cohousinglaw29_ChargesExact.l1] at H
         by_cases c31 : x14_2 < (t457.length : Int)
         ·rw [if_pos c31] at H
          have c31b0 : decide (x14_2 < (t457.length : Int)) = true := decide_eq_true c31
          clear c31
          by_cases c32 : 0 ≤ x14_2
          ·rw [if_pos c32] at H
           have c32b0 : decide (0 ≤ x14_2) = true := decide_eq_true c32
           clear c32
           obtain ⟨bq33, hbq33⟩ : ∃ b_ : Bool, b_ = ((rd_T43 t457 x14_2).f3) := ⟨_, rfl⟩
           replace H : (if (bq33 = true) then (cohousinglaw29_ChargesExact.l1 k2 t448 x7_1 t457 t458 t459 (wrap64 (x14_2 + 1))) else (some false)) = some r := by rw [← hbq33] at H; exact H
           have Nbq33 := Aside0.mk hbq33
           clear hbq33
           by_cases c34 : (bq33 = true)
           ·subst c34
            have H1 : (cohousinglaw29_ChargesExact.l1 k2 t448 x7_1 t457 t458 t459 (wrap64 (x14_2 + 1))) = some r := by rw [if_pos rfl] at H; exact H
            clear H
            have H := H1
            clear H1
            have H' := Aside0.mk H
            clear H
            obtain ⟨Ao35, co35, eo35⟩ := Kd.R_slice HO_11.out
            subst eo35
            have p462 : 0 ≤ (x14_2 : Int) := of_decide_eq_true (by first | (with_reducible assumption) | assumption)
            have q462 : x14_2 < (t457.length : Int) := of_decide_eq_true (by first | (with_reducible assumption) | assumption)
            obtain ⟨ad462, e462, hx462_0, hx462_1, hx462_2, hx462_3, hx462_4⟩ := at_T43 (Kd.R_reads' HO_11.out).2.2 x14_2 p462 q462
            (try rw [← Nbq33.out] at hx462_4)
            cases e462
            replace p462 := eq_true p462
            replace q462 := eq_true q462
            go_wp2
            go_roundg k2
            case measure => have := HK1.out; have := HK2.out; omega
            case rel => exact ⟨(wrap64 (x14_2 + 1)), (by first | rfl | (simp; done) | (simp [*]; done)), H', ⟨by have := HK1.out; have := HK2.out; omega⟩, ⟨by (with_reducible repeat (first | apply Kd.R_alloc | apply Kd.R_drewN | apply Kd.R_drew)); exact HO_7.out⟩, ⟨by (with_reducible repeat (first | apply Kd.R_alloc | apply Kd.R_drewN | apply Kd.R_drew)); exact HO_11.out⟩, ⟨by repeat (first | (with_reducible first | exact HB.out | apply below_alloc | apply pw_below_drewN | apply below_drew1) | exact HB.out)⟩⟩
           ·replace c34 := Bool.eq_false_iff.mpr c34
            subst c34
            have H1 : (some false) = some r := by rw [if_neg (show ¬ (false = true) by decide)] at H; exact H
            clear H
            have H := H1
            clear H1
            obtain rfl := Option.some.inj H
            obtain ⟨Ao36, co36, eo36⟩ := Kd.R_slice HO_11.out
            subst eo36
            have p462 : 0 ≤ (x14_2 : Int) := of_decide_eq_true (by first | (with_reducible assumption) | assumption)
            have q462 : x14_2 < (t457.length : Int) := of_decide_eq_true (by first | (with_reducible assumption) | assumption)
            obtain ⟨ad462, e462, hx462_0, hx462_1, hx462_2, hx462_3, hx462_4⟩ := at_T43 (Kd.R_reads' HO_11.out).2.2 x14_2 p462 q462
            (try rw [← Nbq33.out] at hx462_4)
            cases e462
            replace p462 := eq_true p462
            replace q462 := eq_true q462
            go_wp2
            go_ret
            exact ⟨by first | rfl | (simp [errW_none, errW_some] <;> rfl) | (simp [*, errW_none, errW_some] <;> rfl), by repeat (first | (with_reducible first | exact HB.out | apply below_alloc | apply pw_below_drewN | apply below_drew1) | exact HB.out)⟩
          ·rw [if_neg c32] at H
           exact absurd H (by simp)
         ·rw [if_neg c31] at H
          have c31b0 : decide (x14_2 < (t457.length : Int)) = false := decide_eq_false c31
          clear c31
          by_cases c37 : t448 = true
          ·subst c37
           have H1 : (if t459 = 0 then (if (t457.length : Int) = (x7_1.length : Int) then (if (wrap64 (2 * t458)) ≤ (x7_1.length : Int) then (some (decide ((wrap64 ((-2) * t458)) ≤ (x7_1.length : Int)))) else (some false)) else (some false)) else (some false)) = some r := by rw [if_pos rfl] at H; exact H
           clear H
           have H := H1
           clear H1
           by_cases c38 : t459 = 0
           ·rw [if_pos c38] at H
            have c38b0 : (t459 == 0) = true := beq_iff_eq.mpr c38
            have c38b1 : (t459 != 0) = false := bne_eq_false_iff_eq.mpr c38
            clear c38
            by_cases c39 : (t457.length : Int) = (x7_1.length : Int)
            ·rw [if_pos c39] at H
             have c39b0 : ((t457.length : Int) == (x7_1.length : Int)) = true := beq_iff_eq.mpr c39
             have c39b1 : ((t457.length : Int) != (x7_1.length : Int)) = false := bne_eq_false_iff_eq.mpr c39
             have c39b2 : (t457.length == x7_1.length) = true := by first | simpa using c39 | (simp at c39 ⊢; omega)
             clear c39
             by_cases c40 : (wrap64 (2 * t458)) ≤ (x7_1.length : Int)
             ·rw [if_pos c40] at H
              have c40b0 : decide ((wrap64 (2 * t458)) ≤ (x7_1.length : Int)) = true := decide_eq_true c40
              clear c40
              obtain rfl := Option.some.inj H
              obtain ⟨Ao41, co41, eo41⟩ := Kd.R_slice HO_11.out
              subst eo41
              go_wp2
              go_ret
              exact ⟨by first | rfl | (simp [errW_none, errW_some] <;> rfl) | (simp [*, errW_none, errW_some] <;> rfl), by repeat (first | (with_reducible first | exact HB.out | apply below_alloc | apply pw_below_drewN | apply below_drew1) | exact HB.out)⟩
             ·rw [if_neg c40] at H
              have c40b0 : decide ((wrap64 (2 * t458)) ≤ (x7_1.length : Int)) = false := decide_eq_false c40
              clear c40
              obtain rfl := Option.some.inj H
              obtain ⟨Ao42, co42, eo42⟩ := Kd.R_slice HO_11.out
              subst eo42
              go_wp2
              go_ret
              exact ⟨by first | rfl | (simp [errW_none, errW_some] <;> rfl) | (simp [*, errW_none, errW_some] <;> rfl), by repeat (first | (with_reducible first | exact HB.out | apply below_alloc | apply pw_below_drewN | apply below_drew1) | exact HB.out)⟩
            ·rw [if_neg c39] at H
             have c39b0 : ((t457.length : Int) == (x7_1.length : Int)) = false := beq_eq_false_iff_ne.mpr c39
             have c39b1 : ((t457.length : Int) != (x7_1.length : Int)) = true := bne_iff_ne.mpr c39
             have c39b2 : (t457.length == x7_1.length) = false := by first | simpa using c39 | (simp at c39 ⊢; omega)
             obtain rfl := Option.some.inj H
             obtain ⟨Ao43, co43, eo43⟩ := Kd.R_slice HO_11.out
             subst eo43
             go_wp2
             go_ret
             exact ⟨by first | rfl | (simp [errW_none, errW_some] <;> rfl) | (simp [*, errW_none, errW_some] <;> rfl), by repeat (first | (with_reducible first | exact HB.out | apply below_alloc | apply pw_below_drewN | apply below_drew1) | exact HB.out)⟩
           ·rw [if_neg c38] at H
            have c38b0 : (t459 == 0) = false := beq_eq_false_iff_ne.mpr c38
            have c38b1 : (t459 != 0) = true := bne_iff_ne.mpr c38
            obtain rfl := Option.some.inj H
            obtain ⟨Ao44, co44, eo44⟩ := Kd.R_slice HO_11.out
            subst eo44
            go_wp2
            go_ret
            exact ⟨by first | rfl | (simp [errW_none, errW_some] <;> rfl) | (simp [*, errW_none, errW_some] <;> rfl), by repeat (first | (with_reducible first | exact HB.out | apply below_alloc | apply pw_below_drewN | apply below_drew1) | exact HB.out)⟩
          ·replace c37 := Bool.eq_false_iff.mpr c37
           subst c37
           have H1 : (some false) = some r := by rw [if_neg (show ¬ (false = true) by decide)] at H; exact H
           clear H
           have H := H1
           clear H1
           obtain rfl := Option.some.inj H
           obtain ⟨Ao45, co45, eo45⟩ := Kd.R_slice HO_11.out
           subst eo45
           go_wp2
           go_ret
           exact ⟨by first | rfl | (simp [errW_none, errW_some] <;> rfl) | (simp [*, errW_none, errW_some] <;> rfl), by repeat (first | (with_reducible first | exact HB.out | apply below_alloc | apply pw_below_drewN | apply below_drew1) | exact HB.out)⟩
  ·rw [if_neg c5] at H
   exact absurd H (by simp)
 ·rw [if_neg c4] at H
  have c4b0 : decide (20 < (l1.length : Int)) = false := decide_eq_false c4
  have c4b1 : decide (20 < l1.length) = false := decide_eq_false (by omega)
  clear c4
  have H' := Aside0.mk H
  clear H
  go_enter Try.func8, Try.ntmps8
  go_wp2_with (first | ((with_reducible refine gate_callee (f := 20) rfl ?_); refine goesL_ (some 15) rfl rfl Try.func20 (by kernel_rfl) rfl #[] rfl (by (try simp only [List.map_toArray, List.map_cons, List.map_nil]); first | done | rfl | (simp only [List.length_drop, List.length_take]; rfl)) ?_; (with_reducible refine (cohousinglaw29_head.calls k  t448 _ A3.out).mono ?_); rintro e w46 ⟨rfl, hb⟩; refine ⟨_, rfl, ?_⟩; have n0_ := Aside0.mk (below_step (by repeat (first | (with_reducible first | exact HB.out | apply below_alloc | apply pw_below_drewN | apply below_drew1) | exact HB.out)) hb); clear HB; have HB := n0_; clear n0_; (try clear hb); (try clear hb2); (try clear hk); (try clear hi)))
  go_loopg [6, 7, 8, 9] k (fun kq v6 v7 v8 v9 w' => ∃ (x6_1 : Int) (x7_1 : List (S38)) (x8_1 : List Int) (x9_1 : Int), v6 = .int .i64 x6_1 ∧ v9 = .int .i64 x9_1 ∧ Aside0 (cohousinglaw29_ChargesExact.l2 kq a0 l1 t448 x6_1 x7_1 x8_1 x9_1 = some r) ∧ Aside0 (kq ≤ k) ∧ Aside0 (Kd.R k38 38 w' w.heap.size (fun _ => True) v7 x7_1) ∧ Aside0 (Kd.R (Kd.int .i64) 3 w' w.heap.size (fun _ => True) v8 x8_1) ∧ Aside0 (Below w.heap.size w w'))
  case atStart => exact ⟨(0), (([] : List (S38))), (([] : List Int)), (0), (by first | rfl | (simp; done) | (simp [*]; done)), (by first | rfl | (simp; done) | (simp [*]; done)), H', ⟨Nat.le_refl _⟩, ⟨by first | exact Kd.R_nil _ _ _ _ _ | exact Kd.N_nil _ _ _ _ _ | exact Kd.V_nil _ _ _ _ _ | exact Kd.Q_nil _ _ _ _ _ | exact Kd.S_nil _ _ _ _ _⟩, ⟨by first | exact Kd.R_nil _ _ _ _ _ | exact Kd.N_nil _ _ _ _ _ | exact Kd.V_nil _ _ _ _ _ | exact Kd.Q_nil _ _ _ _ _ | exact Kd.S_nil _ _ _ _ _⟩, ⟨by repeat (first | (with_reducible first | exact HB.out | apply below_alloc | apply pw_below_drewN | apply below_drew1) | exact HB.out)⟩⟩
  case round =>
   clear H'
   try clear c1
   try clear c2
   try clear p2
   try clear c3
   try clear q3
   try clear c4
   try clear c4b0
   try clear c4b1
   try clear p4
   try clear q4
   try clear hx4
   try clear c5
   try clear c5b0
   try clear c5b1
   try clear p6
   try clear c8
   try clear c8b0
   try clear c9
   try clear c9b0
   try clear c10
   try clear c11
   try clear c15
   try clear c15b0
   try clear c15b1
   try clear c16
   try clear c17
   try clear c17b0
   try clear c17b1
   try clear c20
   try clear c25
   try clear c31
   try clear c31b0
   try clear c32
   try clear c32b0
   try clear q33
   try clear c34
   try clear c37
   try clear c38
   try clear c38b0
   try clear c38b1
   try clear c39
   try clear c39b0
   try clear c39b1
   try clear c39b2
   try clear c40
   try clear c40b0
   try clear p45
   try clear q45
   try clear hx45
   try clear p46
   try clear q46
   try clear hx46
   try clear hx450_0
   try clear hx462_0
   try clear hx462_1
   try clear hx462_2
   try clear hx462_3
   try clear hx462_4
   try clear p2
   try clear p4
   try clear p450
   try clear p462
   try clear p6
   try clear q4
   try clear q450
   try clear q462
   obtain ⟨x6_1, x7_1, x8_1, x9_1, rfl, rfl, HA, HK1, HO_7, HO_8, HB⟩ := hrel
   cases gk with
   | zero => exact absurd HA.out (by simp [cohousinglaw29_ChargesExact.l2])
   | succ k1 =>
    have H := HA.out
    clear HA
    simp only [cohousinglaw29_ChargesExact.l2] at H
    by_cases c47 : x9_1 < (l1.length : Int)
    ·rw [if_pos c47] at H
     have c47b0 : decide (x9_1 < (l1.length : Int)) = true := decide_eq_true c47
     clear c47
     by_cases c48 : 0 ≤ x9_1
     ·rw [if_pos c48] at H
      have c48b0 : decide (0 ≤ x9_1) = true := decide_eq_true c48
      clear c48
      by_cases c49 : x7_1.length < 8796093022208
      ·rw [if_pos c49] at H
       have LMc49 := Aside0.mk c49
       clear c49
       obtain ⟨y464, hy464⟩ : ∃ y_ : List (S38), y_ = (x7_1 ++ [(⟨Int.tmod (wrap64 (rd l1 x9_1)) 40001, Int.tmod (wrap64 (rd l1 x9_1)) 40001⟩ : S38)]) := ⟨_, rfl⟩
       replace H : (if x8_1.length < 17592186044416 then (cohousinglaw29_ChargesExact.l2 k1 a0 l1 t448 (wrap64 (x6_1 + (Int.tmod (wrap64 (rd l1 x9_1)) 40001))) y464 (x8_1 ++ [wrap64 (x9_1 + 1)]) (wrap64 (x9_1 + 1))) else (none)) = some r := by first | (rw [hy464]; with_reducible exact H) | (have H2_ := (Option.bind_some _ _).symm.trans H; rw [hy464]; with_reducible exact H2_) | (have H2_ := (Option.bind_some _ _).symm.trans H; with_reducible exact H2_) | with_reducible exact H | (rw [hy464]; exact H) | exact H
       have Ny464 := Aside0.mk hy464
       clear hy464
       by_cases c50 : x8_1.length < 17592186044416
       ·rw [if_pos c50] at H
        have LMc50 := Aside0.mk c50
        clear c50
        obtain ⟨y467, hy467⟩ : ∃ y_ : List Int, y_ = (x8_1 ++ [wrap64 (x9_1 + 1)]) := ⟨_, rfl⟩
        replace H : (cohousinglaw29_ChargesExact.l2 k1 a0 l1 t448 (wrap64 (x6_1 + (Int.tmod (wrap64 (rd l1 x9_1)) 40001))) y464 y467 (wrap64 (x9_1 + 1))) = some r := by first | (rw [hy467]; with_reducible exact H) | (have H2_ := (Option.bind_some _ _).symm.trans H; rw [hy467]; with_reducible exact H2_) | (have H2_ := (Option.bind_some _ _).symm.trans H; with_reducible exact H2_) | with_reducible exact H | (rw [hy467]; exact H) | exact H
        have Ny467 := Aside0.mk hy467
        clear hy467
        have H' := Aside0.mk H
        clear H
        have p463 : 0 ≤ (x9_1 : Int) := of_decide_eq_true (by first | (with_reducible assumption) | assumption)
        have q463 : x9_1 < (l1.length : Int) := of_decide_eq_true (by first | (with_reducible assumption) | assumption)
        obtain ⟨ad463, e463, hx463_0⟩ := Kd.at_int HR1.out x9_1 p463 q463
        cases e463
        replace hx463_0 := (HB.out.cell (World.block_lt_of_cell? w _ hx463_0)).trans hx463_0
        replace p463 := eq_true p463
        replace q463 := eq_true q463
        go_wp2_with (first | ((with_reducible refine gate_builtin (b := .append) (xs := #[.tmp 36, .tmp 40]) rfl ?_); (try (refine gate_guard (by rfl) ?_; dsimp only)); at_builtin; refine Kd.R_append k38 (w0 := w) w.heap.size rfl (.tmp 36) (.tmp 40) 23 38 (.agg #[(.int .i64 0), (.int .i64 0)]) 16 rfl Try.underlying23 info38 rfl (by decide) (by omega) u7 x7_1 (⟨Int.tmod (wrap64 (rd l1 x9_1)) 40001, Int.tmod (wrap64 (rd l1 x9_1)) 40001⟩ : S38) [.int .i64 (Int.tmod (wrap64 (rd l1 x9_1)) 40001), .int .i64 (Int.tmod (wrap64 (rd l1 x9_1)) 40001)] (fun _ => True) (fun _ => False) rfl rfl ?aP (fun _ hk => hk.elim) ?aF ?aO ?aB ?aS ?aL ?_; (case aP => exact k38_mkM _ _ _ (⟨Int.tmod (wrap64 (rd l1 x9_1)) 40001, Int.tmod (wrap64 (rd l1 x9_1)) 40001⟩ : S38)); (case aB => exact (by repeat (first | (with_reducible first | exact HB.out | apply below_alloc | apply pw_below_drewN | apply below_drew1) | exact HB.out))); (case aF => exact (fun _ _ => trivial)); (case aO => exact (by (with_reducible repeat (first | apply Kd.R_alloc | apply Kd.R_drewN | apply Kd.R_drew)); exact HO_7.out)); (case aS => exact (below_size (by repeat (first | (with_reducible first | exact HB.out | apply below_alloc | apply pw_below_drewN | apply below_drew1) | exact HB.out)))); (case aL => have := LMc49.out; omega); intro v465 w51 ho hb hg hat; rw [← Ny464.out] at ho; have n0_ := Aside0.mk (Kd.R_over' (by (with_reducible repeat (first | apply Kd.R_alloc | apply Kd.R_drewN | apply Kd.R_drew)); exact HO_8.out) (Kd.R_typed (by (with_reducible repeat (first | apply Kd.R_alloc | apply Kd.R_drewN | apply Kd.R_drew)); exact HO_7.out)) (by decide) hg); have n1_ := Aside0.mk (hb); have n2_ := Aside0.mk (ho); clear HO_8; clear HB; clear HO_7; have HO_8 := n0_; have HB := n1_; have HO466 := n2_; clear n0_ n1_ n2_; clear ho hb hg hat) | ((with_reducible refine gate_builtin (b := .append) (xs := #[.tmp 42, .tmp 45]) rfl ?_); (try (refine gate_guard (by rfl) ?_; dsimp only)); at_builtin; refine Kd.R_append (Kd.int .i64) (w0 := w) w.heap.size rfl (.tmp 42) (.tmp 45) 24 3 (.int .i64 0) 8 rfl Try.underlying24 info3 rfl (by decide) (by omega) u8 x8_1 (wrap64 (x9_1 + 1)) [.int .i64 (wrap64 (x9_1 + 1))] (fun _ => True) (fun _ => False) rfl rfl ?aP (fun _ hk => hk.elim) ?aF ?aO ?aB ?aS ?aL ?_; (case aP => exact rfl); (case aB => exact (by repeat (first | (with_reducible first | exact HB.out | apply below_alloc | apply pw_below_drewN | apply below_drew1) | exact HB.out))); (case aF => exact (fun _ _ => trivial)); (case aO => exact (by (with_reducible repeat (first | apply Kd.R_alloc | apply Kd.R_drewN | apply Kd.R_drew)); exact HO_8.out)); (case aS => exact (below_size (by repeat (first | (with_reducible first | exact HB.out | apply below_alloc | apply pw_below_drewN | apply below_drew1) | exact HB.out)))); (case aL => have := LMc50.out; omega); intro v468 w52 ho hb hg hat; rw [← Ny467.out] at ho; have n0_ := Aside0.mk (Kd.R_over' (by (with_reducible repeat (first | apply Kd.R_alloc | apply Kd.R_drewN | apply Kd.R_drew)); exact HO466.out) (Kd.R_typed (by (with_reducible repeat (first | apply Kd.R_alloc | apply Kd.R_drewN | apply Kd.R_drew)); exact HO_8.out)) (by decide) hg); have n1_ := Aside0.mk (hb); have n2_ := Aside0.mk (ho); clear HO466; clear HB; clear HO_8; have HO466 := n0_; have HB := n1_; have HO469 := n2_; clear n0_ n1_ n2_; clear ho hb hg hat))
        go_roundg k1
        case measure => have := HK1.out; omega
        case rel => exact ⟨(wrap64 (x6_1 + (Int.tmod (wrap64 (rd l1 x9_1)) 40001))), (y464), (y467), (wrap64 (x9_1 + 1)), (by first | rfl | (simp; done) | (simp [*]; done)), (by first | rfl | (simp; done) | (simp [*]; done)), H', ⟨by have := HK1.out; omega⟩, ⟨by (with_reducible repeat (first | apply Kd.R_alloc | apply Kd.R_drewN | apply Kd.R_drew)); exact HO466.out⟩, ⟨by (with_reducible repeat (first | apply Kd.R_alloc | apply Kd.R_drewN | apply Kd.R_drew)); exact HO469.out⟩, ⟨by repeat (first | (with_reducible first | exact HB.out | apply below_alloc | apply pw_below_drewN | apply below_drew1) | exact HB.out)⟩⟩
       ·rw [if_neg c50] at H
        exact absurd H (by simp)
      ·rw [if_neg c49] at H
       exact absurd H (by simp)
     ·rw [if_neg c48] at H
      exact absurd H (by simp)
    ·rw [if_neg c47] at H
     have c47b0 : decide (x9_1 < (l1.length : Int)) = false := decide_eq_false c47
     clear c47
     replace H := Option.bind_eq_some_iff.mp H
     obtain ⟨⟨t470, t471, t472⟩, A530, H⟩ := H
     replace H : (if x6_1 = 0 then (if t448 = true then (if t472 = 1 then (some ((t470.length : Int) == 0)) else (some false)) else (some false)) else (cohousinglaw29_ChargesExact.l3 k1 t448 x7_1 t470 t471 t472 0)) = some r := H
     have A53 := Aside0.mk A530
     clear A530
     by_cases c54 : x6_1 = 0
     ·rw [if_pos c54] at H
      have c54b0 : (x6_1 == 0) = true := beq_iff_eq.mpr c54
      have c54b1 : (x6_1 != 0) = false := bne_eq_false_iff_eq.mpr c54
      clear c54
      by_cases c55 : t448 = true
      ·subst c55
       have H1 : (if t472 = 1 then (some ((t470.length : Int) == 0)) else (some false)) = some r := by rw [if_pos rfl] at H; exact H
       clear H
       have H := H1
       clear H1
       by_cases c56 : t472 = 1
       ·rw [if_pos c56] at H
        have c56b0 : (t472 == 1) = true := beq_iff_eq.mpr c56
        have c56b1 : (t472 != 1) = false := bne_eq_false_iff_eq.mpr c56
        clear c56
        obtain rfl := Option.some.inj H
        obtain ⟨Ao57, co57, eo57⟩ := Kd.R_slice HO_8.out
        subst eo57
        obtain ⟨Ao58, co58, eo58⟩ := Kd.R_slice HO_7.out
        subst eo58
        go_wp2_with (first | ((with_reducible refine gate_callee (f := 25) rfl ?_); refine goesL_ (some 54) rfl rfl Try.func25 (by kernel_rfl) rfl #[.int .i64 (Int.tmod (wrap64 (a0)) 1000000001), .int .i64 x6_1, .slice Ao57 x8_1.length co57, .slice Ao58 x7_1.length co58] rfl (by (try simp only [List.map_toArray, List.map_cons, List.map_nil]); first | done | rfl | (simp only [List.length_drop, List.length_take]; rfl)) ?_; (with_reducible refine (charges_Share.calls (Int.tmod (wrap64 (a0)) 1000000001) x6_1 _ _ x8_1 _ _ x7_1 t470 t471 t472 _ ?side1 ?side2 ?side3 ?side4 A53.out).mono ?_); (case side1 => repeat (first | exact (Kd.R_reads' HO_8.out).2.2 | (with_reducible refine Kd.C_alloc ?_ _) | (with_reducible refine Kd.C_drewN ?_ _) | (with_reducible refine Kd.C_drew ?_))); (case side2 => exact (Kd.R_reads' HO_8.out).2.1); (case side3 => repeat (first | exact (Kd.R_reads' HO_7.out).2.2 | (with_reducible refine Kd.C_alloc ?_ _) | (with_reducible refine Kd.C_drewN ?_ _) | (with_reducible refine Kd.C_drew ?_))); (case side4 => exact (Kd.R_reads' HO_7.out).2.1); rintro e w59 ⟨v473, rfl, ho0, hb⟩; refine ⟨_, rfl, ?_⟩; have n0_ := Aside0.mk (Kd.R_below (by (with_reducible repeat (first | apply Kd.R_alloc | apply Kd.R_drewN | apply Kd.R_drew)); exact HO_7.out) hb); have n1_ := Aside0.mk (Kd.R_below (by (with_reducible repeat (first | apply Kd.R_alloc | apply Kd.R_drewN | apply Kd.R_drew)); exact HO_8.out) hb); have n2_ := Aside0.mk (Kd.R_lower ho0 (below_size (by repeat (first | (with_reducible first | exact HB.out | apply below_alloc | apply pw_below_drewN | apply below_drew1) | exact HB.out)))); have n3_ := Aside0.mk (below_step (by repeat (first | (with_reducible first | exact HB.out | apply below_alloc | apply pw_below_drewN | apply below_drew1) | exact HB.out)) hb); clear HO_7; clear HO_8; clear HB; have HO_7 := n0_; have HO_8 := n1_; have HO474 := n2_; have HB := n3_; clear n0_ n1_ n2_ n3_; (try clear hb); (try clear hb2); (try clear hk); (try clear hi); (try clear ho0); obtain ⟨Ao60, co60, eo60⟩ := Kd.R_slice HO474.out; subst eo60))
        go_ret
        exact ⟨by first | rfl | (simp [errW_none, errW_some] <;> rfl) | (simp [*, errW_none, errW_some] <;> rfl), by repeat (first | (with_reducible first | exact HB.out | apply below_alloc | apply pw_below_drewN | apply below_drew1) | exact HB.out)⟩
       ·rw [if_neg c56] at H
        have c56b0 : (t472 == 1) = false := beq_eq_false_iff_ne.mpr c56
        have c56b1 : (t472 != 1) = true := bne_iff_ne.mpr c56
        obtain rfl := Option.some.inj H
        obtain ⟨Ao61, co61, eo61⟩ := Kd.R_slice HO_8.out
        subst eo61
        obtain ⟨Ao62, co62, eo62⟩ := Kd.R_slice HO_7.out
        subst eo62
        go_wp2_with (first | ((with_reducible refine gate_callee (f := 25) rfl ?_); refine goesL_ (some 54) rfl rfl Try.func25 (by kernel_rfl) rfl #[.int .i64 (Int.tmod (wrap64 (a0)) 1000000001), .int .i64 x6_1, .slice Ao61 x8_1.length co61, .slice Ao62 x7_1.length co62] rfl (by (try simp only [List.map_toArray, List.map_cons, List.map_nil]); first | done | rfl | (simp only [List.length_drop, List.length_take]; rfl)) ?_; (with_reducible refine (charges_Share.calls (Int.tmod (wrap64 (a0)) 1000000001) x6_1 _ _ x8_1 _ _ x7_1 t470 t471 t472 _ ?side1 ?side2 ?side3 ?side4 A53.out).mono ?_); (case side1 => repeat (first | exact (Kd.R_reads' HO_8.out).2.2 | (with_reducible refine Kd.C_alloc ?_ _) | (with_reducible refine Kd.C_drewN ?_ _) | (with_reducible refine Kd.C_drew ?_))); (case side2 => exact (Kd.R_reads' HO_8.out).2.1); (case side3 => repeat (first | exact (Kd.R_reads' HO_7.out).2.2 | (with_reducible refine Kd.C_alloc ?_ _) | (with_reducible refine Kd.C_drewN ?_ _) | (with_reducible refine Kd.C_drew ?_))); (case side4 => exact (Kd.R_reads' HO_7.out).2.1); rintro e w63 ⟨v473, rfl, ho0, hb⟩; refine ⟨_, rfl, ?_⟩; have n0_ := Aside0.mk (Kd.R_below (by (with_reducible repeat (first | apply Kd.R_alloc | apply Kd.R_drewN | apply Kd.R_drew)); exact HO_7.out) hb); have n1_ := Aside0.mk (Kd.R_below (by (with_reducible repeat (first | apply Kd.R_alloc | apply Kd.R_drewN | apply Kd.R_drew)); exact HO_8.out) hb); have n2_ := Aside0.mk (Kd.R_lower ho0 (below_size (by repeat (first | (with_reducible first | exact HB.out | apply below_alloc | apply pw_below_drewN | apply below_drew1) | exact HB.out)))); have n3_ := Aside0.mk (below_step (by repeat (first | (with_reducible first | exact HB.out | apply below_alloc | apply pw_below_drewN | apply below_drew1) | exact HB.out)) hb); clear HO_7; clear HO_8; clear HB; have HO_7 := n0_; have HO_8 := n1_; have HO474 := n2_; have HB := n3_; clear n0_ n1_ n2_ n3_; (try clear hb); (try clear hb2); (try clear hk); (try clear hi); (try clear ho0)))
        go_ret
        exact ⟨by first | rfl | (simp [errW_none, errW_some] <;> rfl) | (simp [*, errW_none, errW_some] <;> rfl), by repeat (first | (with_reducible first | exact HB.out | apply below_alloc | apply pw_below_drewN | apply below_drew1) | exact HB.out)⟩
      ·replace c55 := Bool.eq_false_iff.mpr c55
       subst c55
       have H1 : (some false) = some r := by rw [if_neg (show ¬ (false = true) by decide)] at H; exact H
       clear H
       have H := H1
       clear H1
       obtain rfl := Option.some.inj H
       obtain ⟨Ao64, co64, eo64⟩ := Kd.R_slice HO_8.out
       subst eo64
       obtain ⟨Ao65, co65, eo65⟩ := Kd.R_slice HO_7.out
       subst eo65
       go_wp2_with (first | ((with_reducible refine gate_callee (f := 25) rfl ?_); refine goesL_ (some 54) rfl rfl Try.func25 (by kernel_rfl) rfl #[.int .i64 (Int.tmod (wrap64 (a0)) 1000000001), .int .i64 x6_1, .slice Ao64 x8_1.length co64, .slice Ao65 x7_1.length co65] rfl (by (try simp only [List.map_toArray, List.map_cons, List.map_nil]); first | done | rfl | (simp only [List.length_drop, List.length_take]; rfl)) ?_; (with_reducible refine (charges_Share.calls (Int.tmod (wrap64 (a0)) 1000000001) x6_1 _ _ x8_1 _ _ x7_1 t470 t471 t472 _ ?side1 ?side2 ?side3 ?side4 A53.out).mono ?_); (case side1 => repeat (first | exact (Kd.R_reads' HO_8.out).2.2 | (with_reducible refine Kd.C_alloc ?_ _) | (with_reducible refine Kd.C_drewN ?_ _) | (with_reducible refine Kd.C_drew ?_))); (case side2 => exact (Kd.R_reads' HO_8.out).2.1); (case side3 => repeat (first | exact (Kd.R_reads' HO_7.out).2.2 | (with_reducible refine Kd.C_alloc ?_ _) | (with_reducible refine Kd.C_drewN ?_ _) | (with_reducible refine Kd.C_drew ?_))); (case side4 => exact (Kd.R_reads' HO_7.out).2.1); rintro e w66 ⟨v473, rfl, ho0, hb⟩; refine ⟨_, rfl, ?_⟩; have n0_ := Aside0.mk (Kd.R_below (by (with_reducible repeat (first | apply Kd.R_alloc | apply Kd.R_drewN | apply Kd.R_drew)); exact HO_7.out) hb); have n1_ := Aside0.mk (Kd.R_below (by (with_reducible repeat (first | apply Kd.R_alloc | apply Kd.R_drewN | apply Kd.R_drew)); exact HO_8.out) hb); have n2_ := Aside0.mk (Kd.R_lower ho0 (below_size (by repeat (first | (with_reducible first | exact HB.out | apply below_alloc | apply pw_below_drewN | apply below_drew1) | exact HB.out)))); have n3_ := Aside0.mk (below_step (by repeat (first | (with_reducible first | exact HB.out | apply below_alloc | apply pw_below_drewN | apply below_drew1) | exact HB.out)) hb); clear HO_7; clear HO_8; clear HB; have HO_7 := n0_; have HO_8 := n1_; have HO474 := n2_; have HB := n3_; clear n0_ n1_ n2_ n3_; (try clear hb); (try clear hb2); (try clear hk); (try clear hi); (try clear ho0)))
       go_ret
       exact ⟨by first | rfl | (simp [errW_none, errW_some] <;> rfl) | (simp [*, errW_none, errW_some] <;> rfl), by repeat (first | (with_reducible first | exact HB.out | apply below_alloc | apply pw_below_drewN | apply below_drew1) | exact HB.out)⟩
     ·rw [if_neg c54] at H
      have c54b0 : (x6_1 == 0) = false := beq_eq_false_iff_ne.mpr c54
      have c54b1 : (x6_1 != 0) = true := bne_iff_ne.mpr c54
      have H' := Aside0.mk H
      clear H
      obtain ⟨Ao67, co67, eo67⟩ := Kd.R_slice HO_8.out
      subst eo67
      obtain ⟨Ao68, co68, eo68⟩ := Kd.R_slice HO_7.out
      subst eo68
      go_wp2_with (first | ((with_reducible refine gate_callee (f := 25) rfl ?_); refine goesL_ (some 54) rfl rfl Try.func25 (by kernel_rfl) rfl #[.int .i64 (Int.tmod (wrap64 (a0)) 1000000001), .int .i64 x6_1, .slice Ao67 x8_1.length co67, .slice Ao68 x7_1.length co68] rfl (by (try simp only [List.map_toArray, List.map_cons, List.map_nil]); first | done | rfl | (simp only [List.length_drop, List.length_take]; rfl)) ?_; (with_reducible refine (charges_Share.calls (Int.tmod (wrap64 (a0)) 1000000001) x6_1 _ _ x8_1 _ _ x7_1 t470 t471 t472 _ ?side1 ?side2 ?side3 ?side4 A53.out).mono ?_); (case side1 => repeat (first | exact (Kd.R_reads' HO_8.out).2.2 | (with_reducible refine Kd.C_alloc ?_ _) | (with_reducible refine Kd.C_drewN ?_ _) | (with_reducible refine Kd.C_drew ?_))); (case side2 => exact (Kd.R_reads' HO_8.out).2.1); (case side3 => repeat (first | exact (Kd.R_reads' HO_7.out).2.2 | (with_reducible refine Kd.C_alloc ?_ _) | (with_reducible refine Kd.C_drewN ?_ _) | (with_reducible refine Kd.C_drew ?_))); (case side4 => exact (Kd.R_reads' HO_7.out).2.1); rintro e w69 ⟨v473, rfl, ho0, hb⟩; refine ⟨_, rfl, ?_⟩; have n0_ := Aside0.mk (Kd.R_below (by (with_reducible repeat (first | apply Kd.R_alloc | apply Kd.R_drewN | apply Kd.R_drew)); exact HO_7.out) hb); have n1_ := Aside0.mk (Kd.R_below (by (with_reducible repeat (first | apply Kd.R_alloc | apply Kd.R_drewN | apply Kd.R_drew)); exact HO_8.out) hb); have n2_ := Aside0.mk (Kd.R_lower ho0 (below_size (by repeat (first | (with_reducible first | exact HB.out | apply below_alloc | apply pw_below_drewN | apply below_drew1) | exact HB.out)))); have n3_ := Aside0.mk (below_step (by repeat (first | (with_reducible first | exact HB.out | apply below_alloc | apply pw_below_drewN | apply below_drew1) | exact HB.out)) hb); clear HO_7; clear HO_8; clear HB; have HO_7 := n0_; have HO_8 := n1_; have HO474 := n2_; have HB := n3_; clear n0_ n1_ n2_ n3_; (try clear hb); (try clear hb2); (try clear hk); (try clear hi); (try clear ho0)))
      go_loopg [14] k1 (fun kq v14 w' => ∃ (x14_2 : Int), v14 = .int .i64 x14_2 ∧ Aside0 (cohousinglaw29_ChargesExact.l3 kq t448 x7_1 t470 t471 t472 x14_2 = some r) ∧ Aside0 (kq ≤ k1) ∧ Aside0 (Kd.R k38 38 w' w.heap.size (fun _ => True) (.slice Ao68 x7_1.length co68) x7_1) ∧ Aside0 (Kd.R k43 43 w' w.heap.size (fun _ => True) v473 t470) ∧ Aside0 (Below w.heap.size w w'))
      case atStart => exact ⟨(0), (by first | rfl | (simp; done) | (simp [*]; done)), H', ⟨Nat.le_refl _⟩, ⟨by (with_reducible repeat (first | apply Kd.R_alloc | apply Kd.R_drewN | apply Kd.R_drew)); exact HO_7.out⟩, ⟨by (with_reducible repeat (first | apply Kd.R_alloc | apply Kd.R_drewN | apply Kd.R_drew)); exact HO474.out⟩, ⟨by repeat (first | (with_reducible first | exact HB.out | apply below_alloc | apply pw_below_drewN | apply below_drew1) | exact HB.out)⟩⟩
      case round =>
       clear H'
       try clear c1
       try clear c2
       try clear p2
       try clear c3
       try clear q3
       try clear c4
       try clear c4b0
       try clear c4b1
       try clear p4
       try clear q4
       try clear hx4
       try clear c5
       try clear c5b0
       try clear c5b1
       try clear p6
       try clear c8
       try clear c8b0
       try clear c9
       try clear c9b0
       try clear c10
       try clear c11
       try clear c15
       try clear c15b0
       try clear c15b1
       try clear c16
       try clear c17
       try clear c17b0
       try clear c17b1
       try clear c20
       try clear c25
       try clear c31
       try clear c31b0
       try clear c32
       try clear c32b0
       try clear q33
       try clear c34
       try clear c37
       try clear c38
       try clear c38b0
       try clear c38b1
       try clear c39
       try clear c39b0
       try clear c39b1
       try clear c39b2
       try clear c40
       try clear c40b0
       try clear p45
       try clear q45
       try clear hx45
       try clear p46
       try clear q46
       try clear hx46
       try clear c47
       try clear c47b0
       try clear c48
       try clear c48b0
       try clear c49
       try clear c50
       try clear c54
       try clear c54b0
       try clear c54b1
       try clear c55
       try clear c56
       try clear c56b0
       try clear c56b1
       try clear p64
       try clear hx450_0
       try clear hx462_0
       try clear hx462_1
       try clear hx462_2
       try clear hx462_3
       try clear hx462_4
       try clear hx463_0
       try clear p2
       try clear p4
       try clear p45
       try clear p450
       try clear p46
       try clear p462
       try clear p463
       try clear p6
       try clear q3
       try clear q33
       try clear q4
       try clear q45
       try clear q450
       try clear q46
       try clear q462
       try clear q463
       obtain ⟨x14_2, rfl, HA, HK2, HO_7, HO_11, HB⟩ := hrel
       cases gk with
       | zero => exact absurd HA.out (by simp [cohousinglaw29_ChargesExact.l3])
       | succ k2 =>
        have H := HA.out
        clear HA
        simp only [cohousinglaw29_ChargesExact.l3] at H
        by_cases c70 : x14_2 < (t470.length : Int)
        ·rw [if_pos c70] at H
         have c70b0 : decide (x14_2 < (t470.length : Int)) = true := decide_eq_true c70
         clear c70
         by_cases c71 : 0 ≤ x14_2
         ·rw [if_pos c71] at H
          have c71b0 : decide (0 ≤ x14_2) = true := decide_eq_true c71
          clear c71
          obtain ⟨bq72, hbq72⟩ : ∃ b_ : Bool, b_ = ((rd_T43 t470 x14_2).f3) := ⟨_, rfl⟩
          replace H : (if (bq72 = true) then (cohousinglaw29_ChargesExact.l3 k2 t448 x7_1 t470 t471 t472 (wrap64 (x14_2 + 1))) else (some false)) = some r := by rw [← hbq72] at H; exact H
          have Nbq72 := Aside0.mk hbq72
          clear hbq72
          by_cases c73 : (bq72 = true)
          ·subst c73
           have H1 : (cohousinglaw29_ChargesExact.l3 k2 t448 x7_1 t470 t471 t472 (wrap64 (x14_2 + 1))) = some r := by rw [if_pos rfl] at H; exact H
           clear H
           have H := H1
           clear H1
           have H' := Aside0.mk H
           clear H
           obtain ⟨Ao74, co74, eo74⟩ := Kd.R_slice HO_11.out
           subst eo74
           have p475 : 0 ≤ (x14_2 : Int) := of_decide_eq_true (by first | (with_reducible assumption) | assumption)
           have q475 : x14_2 < (t470.length : Int) := of_decide_eq_true (by first | (with_reducible assumption) | assumption)
           obtain ⟨ad475, e475, hx475_0, hx475_1, hx475_2, hx475_3, hx475_4⟩ := at_T43 (Kd.R_reads' HO_11.out).2.2 x14_2 p475 q475
           (try rw [← Nbq72.out] at hx475_4)
           cases e475
           replace p475 := eq_true p475
           replace q475 := eq_true q475
           go_wp2
           go_roundg k2
           case measure => have := HK1.out; have := HK2.out; omega
           case rel => exact ⟨(wrap64 (x14_2 + 1)), (by first | rfl | (simp; done) | (simp [*]; done)), H', ⟨by have := HK1.out; have := HK2.out; omega⟩, ⟨by (with_reducible repeat (first | apply Kd.R_alloc | apply Kd.R_drewN | apply Kd.R_drew)); exact HO_7.out⟩, ⟨by (with_reducible repeat (first | apply Kd.R_alloc | apply Kd.R_drewN | apply Kd.R_drew)); exact HO_11.out⟩, ⟨by repeat (first | (with_reducible first | exact HB.out | apply below_alloc | apply pw_below_drewN | apply below_drew1) | exact HB.out)⟩⟩
          ·replace c73 := Bool.eq_false_iff.mpr c73
           subst c73
           have H1 : (some false) = some r := by rw [if_neg (show ¬ (false = true) by decide)] at H; exact H
           clear H
           have H := H1
           clear H1
           obtain rfl := Option.some.inj H
           obtain ⟨Ao75, co75, eo75⟩ := Kd.R_slice HO_11.out
           subst eo75
           have p475 : 0 ≤ (x14_2 : Int) := of_decide_eq_true (by first | (with_reducible assumption) | assumption)
           have q475 : x14_2 < (t470.length : Int) := of_decide_eq_true (by first | (with_reducible assumption) | assumption)
           obtain ⟨ad475, e475, hx475_0, hx475_1, hx475_2, hx475_3, hx475_4⟩ := at_T43 (Kd.R_reads' HO_11.out).2.2 x14_2 p475 q475
           (try rw [← Nbq72.out] at hx475_4)
           cases e475
           replace p475 := eq_true p475
           replace q475 := eq_true q475
           go_wp2
           go_ret
           exact ⟨by first | rfl | (simp [errW_none, errW_some] <;> rfl) | (simp [*, errW_none, errW_some] <;> rfl), by repeat (first | (with_reducible first | exact HB.out | apply below_alloc | apply pw_below_drewN | apply below_drew1) | exact HB.out)⟩
         ·rw [if_neg c71] at H
          exact absurd H (by simp)
        ·rw [if_neg c70] at H
         have c70b0 : decide (x14_2 < (t470.length : Int)) = false := decide_eq_false c70
         clear c70
         by_cases c76 : t448 = true
         ·subst c76
          have H1 : (if t472 = 0 then (if (t470.length : Int) = (x7_1.length : Int) then (if (wrap64 (2 * t471)) ≤ (x7_1.length : Int) then (some (decide ((wrap64 ((-2) * t471)) ≤ (x7_1.length : Int)))) else (some false)) else (some false)) else (some false)) = some r := by rw [if_pos rfl] at H; exact H
          clear H
          have H := H1
          clear H1
          by_cases c77 : t472 = 0
          ·rw [if_pos c77] at H
           have c77b0 : (t472 == 0) = true := beq_iff_eq.mpr c77
           have c77b1 : (t472 != 0) = false := bne_eq_false_iff_eq.mpr c77
           clear c77
           by_cases c78 : (t470.length : Int) = (x7_1.length : Int)
           ·rw [if_pos c78] at H
            have c78b0 : ((t470.length : Int) == (x7_1.length : Int)) = true := beq_iff_eq.mpr c78
            have c78b1 : ((t470.length : Int) != (x7_1.length : Int)) = false := bne_eq_false_iff_eq.mpr c78
            have c78b2 : (t470.length == x7_1.length) = true := by first | simpa using c78 | (simp at c78 ⊢; omega)
            clear c78
            by_cases c79 : (wrap64 (2 * t471)) ≤ (x7_1.length : Int)
            ·rw [if_pos c79] at H
             have c79b0 : decide ((wrap64 (2 * t471)) ≤ (x7_1.length : Int)) = true := decide_eq_true c79
             clear c79
             obtain rfl := Option.some.inj H
             obtain ⟨Ao80, co80, eo80⟩ := Kd.R_slice HO_11.out
             subst eo80
             go_wp2
             go_ret
             exact ⟨by first | rfl | (simp [errW_none, errW_some] <;> rfl) | (simp [*, errW_none, errW_some] <;> rfl), by repeat (first | (with_reducible first | exact HB.out | apply below_alloc | apply pw_below_drewN | apply below_drew1) | exact HB.out)⟩
            ·rw [if_neg c79] at H
             have c79b0 : decide ((wrap64 (2 * t471)) ≤ (x7_1.length : Int)) = false := decide_eq_false c79
             clear c79
             obtain rfl := Option.some.inj H
             obtain ⟨Ao81, co81, eo81⟩ := Kd.R_slice HO_11.out
             subst eo81
             go_wp2
             go_ret
             exact ⟨by first | rfl | (simp [errW_none, errW_some] <;> rfl) | (simp [*, errW_none, errW_some] <;> rfl), by repeat (first | (with_reducible first | exact HB.out | apply below_alloc | apply pw_below_drewN | apply below_drew1) | exact HB.out)⟩
           ·rw [if_neg c78] at H
            have c78b0 : ((t470.length : Int) == (x7_1.length : Int)) = false := beq_eq_false_iff_ne.mpr c78
            have c78b1 : ((t470.length : Int) != (x7_1.length : Int)) = true := bne_iff_ne.mpr c78
            have c78b2 : (t470.length == x7_1.length) = false := by first | simpa using c78 | (simp at c78 ⊢; omega)
            obtain rfl := Option.some.inj H
            obtain ⟨Ao82, co82, eo82⟩ := Kd.R_slice HO_11.out
            subst eo82
            go_wp2
            go_ret
            exact ⟨by first | rfl | (simp [errW_none, errW_some] <;> rfl) | (simp [*, errW_none, errW_some] <;> rfl), by repeat (first | (with_reducible first | exact HB.out | apply below_alloc | apply pw_below_drewN | apply below_drew1) | exact HB.out)⟩
          ·rw [if_neg c77] at H
           have c77b0 : (t472 == 0) = false := beq_eq_false_iff_ne.mpr c77
           have c77b1 : (t472 != 0) = true := bne_iff_ne.mpr c77
           obtain rfl := Option.some.inj H
           obtain ⟨Ao83, co83, eo83⟩ := Kd.R_slice HO_11.out
           subst eo83
           go_wp2
           go_ret
           exact ⟨by first | rfl | (simp [errW_none, errW_some] <;> rfl) | (simp [*, errW_none, errW_some] <;> rfl), by repeat (first | (with_reducible first | exact HB.out | apply below_alloc | apply pw_below_drewN | apply below_drew1) | exact HB.out)⟩
         ·replace c76 := Bool.eq_false_iff.mpr c76
          subst c76
          have H1 : (some false) = some r := by rw [if_neg (show ¬ (false = true) by decide)] at H; exact H
          clear H
          have H := H1
          clear H1
          obtain rfl := Option.some.inj H
          obtain ⟨Ao84, co84, eo84⟩ := Kd.R_slice HO_11.out
          subst eo84
          go_wp2
          go_ret
          exact ⟨by first | rfl | (simp [errW_none, errW_some] <;> rfl) | (simp [*, errW_none, errW_some] <;> rfl), by repeat (first | (with_reducible first | exact HB.out | apply below_alloc | apply pw_below_drewN | apply below_drew1) | exact HB.out)⟩
def cohousinglaw29_ChargesExact.Pure : Prop := ∀ (a0 : Int) (l1 : List Int), (Lit.int .u32 a0).wf = true → l1.length ≤ maxLen → l1.length * 2 ≤ 140737488351232 → (∀ x ∈ l1, (Lit.int .u16 x).wf = true) → ∃ k, cohousinglaw29_ChargesExact.f k a0 l1 = some true
theorem cohousinglaw29_ChargesExact.walk (P : cohousinglaw29_ChargesExact.Pure) (a0 : Int) (a1 : Option Addr) (len1 cap1 : Nat) (z1 : List Int) (w : World) (w0 : (Lit.int .u32 a0).wf = true) (w1 : (a1 = none ∧ len1 = 0 ∧ cap1 = 0 ∧ z1 = []) ∨ ∃ x, a1 = some x ∧ len1 ≤ cap1 ∧ cap1 ≤ maxLen ∧ z1.length = cap1 ∧ (∀ i, i < z1.length → w.cell? (x.add i) = some (.int .u16 (z1.getD i 0))) ∧ ∀ n ∈ z1, (Lit.int .u16 n).wf = true) (y1 : len1 * 2 ≤ 140737488351232) :
  Calls Try.prog 8 #[.int .u32 a0, .slice a1 len1 cap1] w fun e w' => e = .returned (.bool true) ∧ Below w.heap.size w w' := by
 obtain ⟨l1, rfl, hr1, hm1, hw1, hc1⟩ := ReadsInt.ofRowC w1
 obtain ⟨k, h⟩ := P a0 l1 w0 hm1 y1 hw1
 refine (cohousinglaw29_ChargesExact.calls k a0 _ _ l1 true w (Kd.C_of_reads (d := (0 : Int)) (h1 := fun _ => rfl) hr1) hc1 h).mono ?_
 rintro e w' ⟨rfl, hd⟩
 exact ⟨rfl, hd⟩
end Go.Proofs.Ytbgchacafglcpaa.P
end
section
namespace Go.Proofs.Ytbgchacafglcpaa.P
open Go.RowKit Go.Proofs.YtbgchacafglcpaaW.PrintWords Go.Proofs.YtbgchacafglcpaaW.PrintLast Go.Proofs.YtbgchacafglcpaaW.PrintMore Go.Proofs.YtbgchacafglcpaaH Go.Proofs.FlowTree
theorem Ev.of_mono {α : Type} {f : Nat → Option α} {r : α} (k0 : Nat) (h0 : f k0 = some r) (h : ∀ k, LeO (f k) (f (k + 1))) : Ev f r := by
 refine ⟨k0, fun k hk => ?_⟩
 obtain ⟨d, rfl⟩ : ∃ d, k = k0 + d := ⟨k - k0, by omega⟩
 induction d with
 | zero => exact h0
 | succ d ih => exact h _ _ (ih (by omega))
theorem head_ev : Ev (fun k => cohousinglaw29_head.f k) true := Ev.of_mono 60 (by kernel_rfl) (fun k => cohousinglaw29_head.mono k)
section
variable {c t : Int} {l : List RGE}
end
end Go.Proofs.Ytbgchacafglcpaa.P
end
section
namespace Go.Proofs.Ytbgchacafglcpaa.P
open Go.RowKit Go.Proofs.YtbgchacafglcpaaW.PrintWords Go.Proofs.YtbgchacafglcpaaW.PrintLast Go.Proofs.YtbgchacafglcpaaW.PrintMore Go.Proofs.YtbgchacafglcpaaH Go.Proofs.FlowTree
def vE (ps : List Int) (j : Nat) : Int := Int.tmod (rd ps (j : Int)) 40001
theorem rd_mem (ps : List Int) (j : Nat) (h : j < ps.length) : rd ps (j : Int) ∈ ps := by
 simp [rd, List.getD_eq_getElem?_getD, h]
theorem vE_bd (ps : List Int) (hu : ∀ x ∈ ps, 0 ≤ x ∧ x ≤ 65535) (j : Nat) (h : j < ps.length) : 0 ≤ vE ps j ∧ vE ps j ≤ 40000 := by
 have := hu _ (rd_mem ps j h)
 unfold vE
 rw [Int.tmod_eq_emod_of_nonneg this.1]
 omega
theorem homes_range_from (n : Nat) : ∀ (d a : Nat), a + d = n → n ≤ 64 → homesB (a : Int) ((List.range' a d).map (fun j : Nat => (j : Int) + 1)) = true := by
 intro d
 induction d with
 | zero => intro a _ _; rfl
 | succ d ih =>
  intro a ha hn
  rw [List.range'_succ, List.map_cons]
  simp only [homesB]
  rw [if_neg (by omega)]
  have := ih (a + 1) (by omega) hn
  rw [show (((a + 1 : Nat)) : Int) = (a : Int) + 1 by omega] at this
  exact this
theorem homes_range (n : Nat) (h : n ≤ 64) : homesB 0 ((List.range n).map (fun j : Nat => (j : Int) + 1)) = true := by
 have := homes_range_from n n 0 (by omega) h
 rw [← List.range_eq_range'] at this
 exact this
theorem exact_l1 {c : Int} {l : List RGE} {p : List CH × Int} (hn : l.length ≤ 200) (hlen : p.1.length = l.length) (hs : ∀ j, j < l.length → (cc p.1 j).f3 = true) (h1 : 2 * (c - p.2) ≤ (l.length : Int)) (h2 : -2 * (c - p.2) ≤ (l.length : Int)) : ∀ d i : Nat, i + d = l.length →
  Ev (fun k => cohousinglaw29_ChargesExact.l1 k true l p.1 (c - p.2) 0 (i : Int)) true := by
 intro d
 induction d with
 | zero =>
  intro i hi
  have e1 : ¬ ((i : Int) < (l.length : Int)) := by omega
  have e2 : (p.1.length : Int) = (l.length : Int) := by rw [hlen]
  have w1 : wrap64 (2 * (c - p.2)) = 2 * (c - p.2) := wrap_id' (by omega) (by omega)
  have w2 : wrap64 ((-2) * (c - p.2)) = (-2) * (c - p.2) := wrap_id' (by omega) (by omega)
  have e3 : decide ((-2) * (c - p.2) ≤ (l.length : Int)) = true := decide_eq_true h2
  have e4 : (2 * (c - p.2) ≤ (l.length : Int)) = True := eq_true h1
  refine Ev.step ?_
  simp only [cohousinglaw29_ChargesExact.l1, e1, if_false, if_true, e2, w1, w2, e3, e4]
  exact Ev.pure _
 | succ d ih =>
  intro i hi
  have e1 : ((i : Int) < (p.1.length : Int)) := by rw [hlen]; omega
  have e2 : (0 : Int) ≤ (i : Int) := by omega
  have e3 : (rd_T43 p.1 (i : Int)).f3 = true := hs i (by omega)
  refine Ev.step ?_
  simp only [cohousinglaw29_ChargesExact.l1, e1, e2, e3, if_true, wrap_nat (show i ≤ 140737488355328 by omega)]
  exact ih (i + 1) (by omega)
theorem exact_l0 (a0 : Int) (ha : 0 ≤ a0 ∧ a0 ≤ 4294967295) (ps : List Int) (hps : ps.length ≤ 20) (hu : ∀ x ∈ ps, 0 ≤ x ∧ x ≤ 65535) : ∀ d i : Nat, i + d = ps.length →
  Ev (fun k => cohousinglaw29_ChargesExact.l0 k a0 ps true (sm (vE ps) (List.range i)) ((List.range i).map (fun j => (⟨vE ps j, vE ps j⟩ : RGE))) ((List.range i).map (fun j : Nat => (j : Int) + 1)) (i : Int)) true := by
 have hv := vE_bd ps hu
 intro d
 induction d with
 | zero =>
  intro i hi
  have e : i = ps.length := by omega
  subst e
  have e1 : ¬ ((ps.length : Int) < (ps.length : Int)) := by omega
  have wa : wrap64 a0 = a0 := wrap_id' (by omega) (by omega)
  have hc : 0 ≤ Int.tmod a0 1000000001 ∧ Int.tmod a0 1000000001 ≤ 1000000000 := by
   rw [Int.tmod_eq_emod_of_nonneg ha.1]
   omega
  refine Ev.step ?_
  simp only [cohousinglaw29_ChargesExact.l0, e1, if_false, charges_Share.f, Option.bind_some, wa]
  obtain ⟨c, hcc⟩ : ∃ c, c = Int.tmod a0 1000000001 := ⟨_, rfl⟩
  rw [← hcc] at hc ⊢
  obtain ⟨t, ht⟩ : ∃ t, t = sm (vE ps) (List.range ps.length) := ⟨_, rfl⟩
  rw [← ht]
  obtain ⟨l, hl⟩ : ∃ l, l = (List.range ps.length).map (fun j => (⟨vE ps j, vE ps j⟩ : RGE)) := ⟨_, rfl⟩
  rw [← hl]
  obtain ⟨homes, hh⟩ : ∃ homes, homes = (List.range ps.length).map (fun j : Nat => (j : Int) + 1) := ⟨_, rfl⟩
  rw [← hh]
  have hll : l.length = ps.length := by rw [hl, List.length_map, List.length_range]
  have hhl : homes.length = ps.length := by rw [hh, List.length_map, List.length_range]
  have hq : ∀ j, j < ps.length → qq l j = ⟨vE ps j, vE ps j⟩ := fun j hj => by
   rw [hl]
   simp [qq, rd_T38, List.getD_eq_getElem?_getD, hj]
  have htb := sm_bound (f := vE ps) (ks := List.range ps.length) (a := 0) (b := 40000) (fun j hj => hv j (List.mem_range.1 hj))
  rw [List.length_range, ← ht] at htb
  have hs := shareC_is c t homes l
  generalize shareC c t homes l = q at hs
  by_cases h0 : t = 0
  ·cases hs with
   | arg _ =>
    simp only [h0, if_true, List.length_nil]
    exact Ev.pure _
   | flow h _ _ _ => exact absurd h.2.2.1 (by omega)
   | ok p h _ _ _ _ _ => exact absurd h.2.2.1 (by omega)
  have hok : PartsOk c t l := by
   refine ⟨hc.1, hc.2, by omega, by omega, by omega, fun j hj => ?_⟩
   rw [hll] at hj
   rw [hq j hj]
   have h1 := hv j hj
   have h2 := sm_ge (f := vE ps) (ks := List.range ps.length) (fun k hk => (hv k (List.mem_range.1 hk)).1) (List.mem_range.2 hj)
   rw [← ht] at h2
   exact ⟨h1.1, Int.le_refl _, h2⟩
  have hho : homesB 0 homes = true := by rw [hh]; exact homes_range ps.length (by omega)
  have hle : leastN l l.length = t := by
   rw [(least_at hok l.length (Nat.le_refl _)).1, hll, ht]
   exact sm_congr (fun j hj => by rw [hq j (List.mem_range.1 hj)])
  cases hs with
  | arg h => exact absurd ⟨hok, by rw [hll, hhl], hho⟩ h
  | flow _ _ _ h => rw [hle] at h; omega
  | ok p _ _ _ hnl hp _ =>
   simp only [h0, if_false]
   have hbb : ∀ j, j < l.length → bLo c t l j = bHi c t l j := fun j hj => by
    unfold bLo bHi
    rw [hq j (by omega)]
   have hsum : p.2 = sm (bLo c t l) (List.range l.length) := by
    rw [hp.sum]
    refine sm_congr (fun j hj => ?_)
    have hj' := List.mem_range.1 hj
    have h1 := (hp.form j hj').ge
    have h2 := (hp.form j hj').le
    have h3 := hbb j hj'
    show (cc p.1 j).f1 = _
    omega
   have hg := lows_sum_ge hok l.length (Nat.le_refl _)
   have hle2 := (least_at hok l.length (Nat.le_refl _)).1
   rw [← hle2, hle, ← hsum] at hg
   have hge : 2 * (c - p.2) ≤ (l.length : Int) := by
    have h4 : t * (2 * c) ≤ t * (2 * p.2 + l.length) := by
     rw [Int.mul_add, ← Int.mul_assoc, ← Int.mul_assoc, Int.mul_comm t 2, Int.mul_assoc 2 t c, Int.mul_comm t c]
     omega
    have := Int.le_of_mul_le_mul_left h4 (by omega)
    omega
   refine exact_l1 (by omega) hp.len (fun j hj => ?_) hge (house_ge hok hnl hp) l.length 0 (by omega)
   rw [(hp.form j hj).sure, hbb j hj]
   simp
 | succ d ih =>
  intro i hi
  have hip : i < ps.length := by omega
  have e1 : ((i : Int) < (ps.length : Int)) := by omega
  have e2 : (0 : Int) ≤ (i : Int) := by omega
  have e3 : ((List.range i).map (fun j => (⟨vE ps j, vE ps j⟩ : RGE))).length < 8796093022208 := by rw [List.length_map, List.length_range]; omega
  have e4 : ((List.range i).map (fun j : Nat => (j : Int) + 1)).length < 17592186044416 := by rw [List.length_map, List.length_range]; omega
  have hx := hu (rd ps (i : Int)) (rd_mem ps i hip)
  have e5 : Int.tmod (wrap64 (rd ps (i : Int))) 40001 = vE ps i := by
   rw [wrap_id' (by omega) (by omega)]
   rfl
  have hvi := hv i hip
  have hb := sm_bound (f := vE ps) (ks := List.range i) (a := 0) (b := 40000) (fun j hj => hv j (by have := List.mem_range.1 hj; omega))
  rw [List.length_range] at hb
  have e6 : wrap64 (sm (vE ps) (List.range i) + vE ps i) = sm (vE ps) (List.range (i + 1)) := by
   rw [wrap_id' (by omega) (by omega), List.range_succ, sm_append, sm_cons, sm_nil]; omega
  have e7 : wrap64 ((i : Int) + 1) = ((i + 1 : Nat) : Int) := wrap_nat (by omega)
  refine Ev.step ?_
  simp only [cohousinglaw29_ChargesExact.l0, e1, e2, e3, e4, if_true, e5, e6, e7]
  have := ih (i + 1) (by omega)
  rw [List.range_succ, List.map_append, List.map_append] at this
  rw [List.range_succ]
  exact this
theorem exact_l3 {c : Int} {l : List RGE} {p : List CH × Int} (hn : l.length ≤ 200) (hlen : p.1.length = l.length) (hs : ∀ j, j < l.length → (cc p.1 j).f3 = true) (h1 : 2 * (c - p.2) ≤ (l.length : Int)) (h2 : -2 * (c - p.2) ≤ (l.length : Int)) : ∀ d i : Nat, i + d = l.length →
  Ev (fun k => cohousinglaw29_ChargesExact.l3 k true l p.1 (c - p.2) 0 (i : Int)) true := by
 intro d
 induction d with
 | zero =>
  intro i hi
  have e1 : ¬ ((i : Int) < (l.length : Int)) := by omega
  have e2 : (p.1.length : Int) = (l.length : Int) := by rw [hlen]
  have w1 : wrap64 (2 * (c - p.2)) = 2 * (c - p.2) := wrap_id' (by omega) (by omega)
  have w2 : wrap64 ((-2) * (c - p.2)) = (-2) * (c - p.2) := wrap_id' (by omega) (by omega)
  have e3 : decide ((-2) * (c - p.2) ≤ (l.length : Int)) = true := decide_eq_true h2
  have e4 : (2 * (c - p.2) ≤ (l.length : Int)) = True := eq_true h1
  refine Ev.step ?_
  simp only [cohousinglaw29_ChargesExact.l3, e1, if_false, if_true, e2, w1, w2, e3, e4]
  exact Ev.pure _
 | succ d ih =>
  intro i hi
  have e1 : ((i : Int) < (p.1.length : Int)) := by rw [hlen]; omega
  have e2 : (0 : Int) ≤ (i : Int) := by omega
  have e3 : (rd_T43 p.1 (i : Int)).f3 = true := hs i (by omega)
  refine Ev.step ?_
  simp only [cohousinglaw29_ChargesExact.l3, e1, e2, e3, if_true, wrap_nat (show i ≤ 140737488355328 by omega)]
  exact ih (i + 1) (by omega)
theorem exact_l2 (a0 : Int) (ha : 0 ≤ a0 ∧ a0 ≤ 4294967295) (ps : List Int) (hps : ps.length ≤ 20) (hu : ∀ x ∈ ps, 0 ≤ x ∧ x ≤ 65535) : ∀ d i : Nat, i + d = ps.length →
  Ev (fun k => cohousinglaw29_ChargesExact.l2 k a0 ps true (sm (vE ps) (List.range i)) ((List.range i).map (fun j => (⟨vE ps j, vE ps j⟩ : RGE))) ((List.range i).map (fun j : Nat => (j : Int) + 1)) (i : Int)) true := by
 have hv := vE_bd ps hu
 intro d
 induction d with
 | zero =>
  intro i hi
  have e : i = ps.length := by omega
  subst e
  have e1 : ¬ ((ps.length : Int) < (ps.length : Int)) := by omega
  have wa : wrap64 a0 = a0 := wrap_id' (by omega) (by omega)
  have hc : 0 ≤ Int.tmod a0 1000000001 ∧ Int.tmod a0 1000000001 ≤ 1000000000 := by
   rw [Int.tmod_eq_emod_of_nonneg ha.1]
   omega
  refine Ev.step ?_
  simp only [cohousinglaw29_ChargesExact.l2, e1, if_false, charges_Share.f, Option.bind_some, wa]
  obtain ⟨c, hcc⟩ : ∃ c, c = Int.tmod a0 1000000001 := ⟨_, rfl⟩
  rw [← hcc] at hc ⊢
  obtain ⟨t, ht⟩ : ∃ t, t = sm (vE ps) (List.range ps.length) := ⟨_, rfl⟩
  rw [← ht]
  obtain ⟨l, hl⟩ : ∃ l, l = (List.range ps.length).map (fun j => (⟨vE ps j, vE ps j⟩ : RGE)) := ⟨_, rfl⟩
  rw [← hl]
  obtain ⟨homes, hh⟩ : ∃ homes, homes = (List.range ps.length).map (fun j : Nat => (j : Int) + 1) := ⟨_, rfl⟩
  rw [← hh]
  have hll : l.length = ps.length := by rw [hl, List.length_map, List.length_range]
  have hhl : homes.length = ps.length := by rw [hh, List.length_map, List.length_range]
  have hq : ∀ j, j < ps.length → qq l j = ⟨vE ps j, vE ps j⟩ := fun j hj => by
   rw [hl]
   simp [qq, rd_T38, List.getD_eq_getElem?_getD, hj]
  have htb := sm_bound (f := vE ps) (ks := List.range ps.length) (a := 0) (b := 40000) (fun j hj => hv j (List.mem_range.1 hj))
  rw [List.length_range, ← ht] at htb
  have hs := shareC_is c t homes l
  generalize shareC c t homes l = q at hs
  by_cases h0 : t = 0
  ·cases hs with
   | arg _ =>
    simp only [h0, if_true, List.length_nil]
    exact Ev.pure _
   | flow h _ _ _ => exact absurd h.2.2.1 (by omega)
   | ok p h _ _ _ _ _ => exact absurd h.2.2.1 (by omega)
  have hok : PartsOk c t l := by
   refine ⟨hc.1, hc.2, by omega, by omega, by omega, fun j hj => ?_⟩
   rw [hll] at hj
   rw [hq j hj]
   have h1 := hv j hj
   have h2 := sm_ge (f := vE ps) (ks := List.range ps.length) (fun k hk => (hv k (List.mem_range.1 hk)).1) (List.mem_range.2 hj)
   rw [← ht] at h2
   exact ⟨h1.1, Int.le_refl _, h2⟩
  have hho : homesB 0 homes = true := by rw [hh]; exact homes_range ps.length (by omega)
  have hle : leastN l l.length = t := by
   rw [(least_at hok l.length (Nat.le_refl _)).1, hll, ht]
   exact sm_congr (fun j hj => by rw [hq j (List.mem_range.1 hj)])
  cases hs with
  | arg h => exact absurd ⟨hok, by rw [hll, hhl], hho⟩ h
  | flow _ _ _ h => rw [hle] at h; omega
  | ok p _ _ _ hnl hp _ =>
   simp only [h0, if_false]
   have hbb : ∀ j, j < l.length → bLo c t l j = bHi c t l j := fun j hj => by
    unfold bLo bHi
    rw [hq j (by omega)]
   have hsum : p.2 = sm (bLo c t l) (List.range l.length) := by
    rw [hp.sum]
    refine sm_congr (fun j hj => ?_)
    have hj' := List.mem_range.1 hj
    have h1 := (hp.form j hj').ge
    have h2 := (hp.form j hj').le
    have h3 := hbb j hj'
    show (cc p.1 j).f1 = _
    omega
   have hg := lows_sum_ge hok l.length (Nat.le_refl _)
   have hle2 := (least_at hok l.length (Nat.le_refl _)).1
   rw [← hle2, hle, ← hsum] at hg
   have hge : 2 * (c - p.2) ≤ (l.length : Int) := by
    have h4 : t * (2 * c) ≤ t * (2 * p.2 + l.length) := by
     rw [Int.mul_add, ← Int.mul_assoc, ← Int.mul_assoc, Int.mul_comm t 2, Int.mul_assoc 2 t c, Int.mul_comm t c]
     omega
    have := Int.le_of_mul_le_mul_left h4 (by omega)
    omega
   refine exact_l3 (by omega) hp.len (fun j hj => ?_) hge (house_ge hok hnl hp) l.length 0 (by omega)
   rw [(hp.form j hj).sure, hbb j hj]
   simp
 | succ d ih =>
  intro i hi
  have hip : i < ps.length := by omega
  have e1 : ((i : Int) < (ps.length : Int)) := by omega
  have e2 : (0 : Int) ≤ (i : Int) := by omega
  have e3 : ((List.range i).map (fun j => (⟨vE ps j, vE ps j⟩ : RGE))).length < 8796093022208 := by rw [List.length_map, List.length_range]; omega
  have e4 : ((List.range i).map (fun j : Nat => (j : Int) + 1)).length < 17592186044416 := by rw [List.length_map, List.length_range]; omega
  have hx := hu (rd ps (i : Int)) (rd_mem ps i hip)
  have e5 : Int.tmod (wrap64 (rd ps (i : Int))) 40001 = vE ps i := by
   rw [wrap_id' (by omega) (by omega)]
   rfl
  have hvi := hv i hip
  have hb := sm_bound (f := vE ps) (ks := List.range i) (a := 0) (b := 40000) (fun j hj => hv j (by have := List.mem_range.1 hj; omega))
  rw [List.length_range] at hb
  have e6 : wrap64 (sm (vE ps) (List.range i) + vE ps i) = sm (vE ps) (List.range (i + 1)) := by
   rw [wrap_id' (by omega) (by omega), List.range_succ, sm_append, sm_cons, sm_nil]; omega
  have e7 : wrap64 ((i : Int) + 1) = ((i + 1 : Nat) : Int) := wrap_nat (by omega)
  refine Ev.step ?_
  simp only [cohousinglaw29_ChargesExact.l2, e1, e2, e3, e4, if_true, e5, e6, e7]
  have := ih (i + 1) (by omega)
  rw [List.range_succ, List.map_append, List.map_append] at this
  rw [List.range_succ]
  exact this
theorem exact_ (a0 : Int) (l1 : List Int) (ha : 0 ≤ a0 ∧ a0 ≤ 4294967295) (hu : ∀ x ∈ l1, 0 ≤ x ∧ x ≤ 65535) : Ev (fun k => cohousinglaw29_ChargesExact.f k a0 l1) true := by
 unfold cohousinglaw29_ChargesExact.f
 refine Ev.bnd head_ev ?_
 by_cases h : (l1.length : Int) > 20
 ·have h2 : (20 : Int) ≤ (l1.length : Int) := by omega
  simp only [h, if_true, h2]
  have := exact_l0 a0 ha (l1.take 20) (by rw [List.length_take]; omega) (fun x hx => hu x (List.mem_of_mem_take hx)) (l1.take 20).length 0 (by omega)
  exact this
 ·simp only [h, if_false]
  have := exact_l2 a0 ha l1 (by omega) hu l1.length 0 (by omega)
  exact this
end Go.Proofs.Ytbgchacafglcpaa.P
end
section
namespace Go.Proofs.Ytbgchacafglcpaa.Pure
open Go.RowKit Go.Proofs.Ytbgchacafglcpaa.P Go.Proofs.YtbgchacafglcpaaW.PrintWords Go.Proofs.YtbgchacafglcpaaW.PrintLast
theorem wf_u (k : IntKind) (hk : k = .u8 ∨ k = .u16 ∨ k = .u32) {x : Int} (h : (Lit.int k x).wf = true) : 0 ≤ x ∧ x ≤ 4294967295 ∧ (k = .u16 → x ≤ 65535) ∧ (k = .u8 → x ≤ 255) := by
 rcases hk with rfl | rfl | rfl <;> simp [Lit.wf, IntKind.min, IntKind.max, IntKind.signed, IntKind.bits] at h ⊢ <;> omega
theorem ChargesExact : cohousinglaw29_ChargesExact.Pure := by
 intro a0 l1 ha _ _ hu
 have h1 := wf_u .u32 (.inr (.inr rfl)) ha
 obtain ⟨k0, h⟩ := exact_ a0 l1 ⟨h1.1, h1.2.1⟩ (fun x hx => by have := wf_u .u16 (.inr (.inl rfl)) (hu x hx); exact ⟨this.1, this.2.2.1 rfl⟩)
 exact ⟨k0, h k0 (Nat.le_refl _)⟩
end Go.Proofs.Ytbgchacafglcpaa.Pure
end
