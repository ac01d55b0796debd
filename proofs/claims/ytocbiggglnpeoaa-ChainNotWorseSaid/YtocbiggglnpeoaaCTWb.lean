/- Part 2 of the proof of ChainNotWorse: what it alone needs. -/
import Derived.Test.YtocbiggglnpeoaaCTWa
set_option linter.unusedVariables false
set_option linter.unusedSimpArgs false
section
namespace Go.Proofs.Ytocbiggglnpeoaa.P
open Go.RowKit Go.Proofs.YtocbiggglnpeoaaW.PrintWords Go.Proofs.YtocbiggglnpeoaaW.PrintLast Go.Proofs.YtocbiggglnpeoaaW.PrintMore
attribute [local go_sem] max2_int min2_int max_two min_two max_three min_three max_four min_four
set_option linter.unusedVariables false
set_option linter.unusedSimpArgs false
set_option maxHeartbeats 8000000
set_option maxRecDepth 100000
section
mutual
def cohousinglaw26_ChainNotWorse.l0 : Nat → List (S49) → Int → List (S55) → Bool → Int → List (S84) → List (S46) → Option (Bool)
 | 0, _, _, _, _, _, _, _ => none
 | k + 1, x1, x2, x3, x9, x10, x563000, x563001 => if x10 < (x1.length : Int) then (cohousinglaw26_ChainNotWorse.l1 k x1 x2 x3 x9 x10 0 x563000 x563001) else ((cohousinglaw26_on.f x2).bind fun t575 => ((chain_Run.f x563000 x563001 x1 t575 x3).bind fun bt576 => ((chain_Next.f x563000 x563001 bt576.1 ([] : List Int)).bind fun bt583 => (if bt576.2.2 = 0 then (if bt583.2.2 = 0 then (cohousinglaw26_ChainNotWorse.j2 k x9 ((bt583.2.1.length : Int) != (x563001.length : Int)) x563000 x563001 bt583.1 bt583.2.1) else (cohousinglaw26_ChainNotWorse.j2 k x9 true x563000 x563001 bt583.1 bt583.2.1)) else (cohousinglaw26_ChainNotWorse.j2 k x9 true x563000 x563001 bt583.1 bt583.2.1)))))
def cohousinglaw26_ChainNotWorse.l1 : Nat → List (S49) → Int → List (S55) → Bool → Int → Int → List (S84) → List (S46) → Option (Bool)
 | 0, _, _, _, _, _, _, _, _ => none
 | k + 1, x1, x2, x3, x9, x10, x11, x563000, x563001 => if 0 ≤ x10 then (if x10 < (x1.length : Int) then (if x11 < (((rd_T49 x1 x10).f1).length : Int) then (if 0 ≤ x11 then ((cohousingref26_Party.f k x563000 x563001 ((rd_T51 ((rd_T49 x1 x10).f1) x11).f0)).bind fun t569 => (if 0 ≤ t569 then (if t569 < (x563001.length : Int) then ((cohousingref23_Ranking.f k ((rd_T46 x563001 t569).f0) ((rd_T46 x563001 t569).f1) ((rd_T46 x563001 t569).f2)).bind fun t571 => ((cohousingref23_In.f k t571 ((rd_T51 ((rd_T49 x1 x10).f1) x11).f2)).bind fun t574 => (if t574 < 0 then (some x9) else (cohousinglaw26_ChainNotWorse.l1 k x1 x2 x3 x9 x10 (wrap64 (x11 + 1)) x563000 x563001)))) else (none)) else (none))) else (none)) else (cohousinglaw26_ChainNotWorse.l0 k x1 x2 x3 x9 (wrap64 (x10 + 1)) x563000 x563001)) else (none)) else (none)
def cohousinglaw26_ChainNotWorse.j2 : Nat → Bool → Bool → List (S84) → List (S46) → List (S84) → List (S46) → Option (Bool)
 | 0, _, _, _, _, _, _ => none
 | k + 1, x9, x98, x563000, x563001, x591000, x591001 => if x98 = true then (some false) else (cohousinglaw26_ChainNotWorse.l2 k x9 0 x563000 x563001 x591000 x591001)
def cohousinglaw26_ChainNotWorse.l2 : Nat → Bool → Int → List (S84) → List (S46) → List (S84) → List (S46) → Option (Bool)
 | 0, _, _, _, _, _, _ => none
 | k + 1, x9, x18, x563000, x563001, x591000, x591001 => if x18 < (x563001.length : Int) then (if 0 ≤ x18 then (if x18 < (x591001.length : Int) then ((market_Rank.f ((rd_T46 x563001 x18).f0) ((rd_T46 x563001 x18).f1) ((rd_T46 x563001 x18).f2) ((rd_T46 x591001 x18).f1)).bind fun bt593 => ((market_Rank.f ((rd_T46 x563001 x18).f0) ((rd_T46 x563001 x18).f1) ((rd_T46 x563001 x18).f2) ((rd_T46 x563001 x18).f1)).bind fun bt597 => (if bt593.2 = 0 then (if bt597.2 = 0 then (if bt593.1 > bt597.1 then (some false) else (cohousinglaw26_ChainNotWorse.l2 k x9 (wrap64 (x18 + 1)) x563000 x563001 x591000 x591001)) else (some false)) else (some false)))) else (none)) else (none)) else (some x9)
end
def cohousinglaw26_ChainNotWorse.f (k : Nat) (l0_0 : List (S84)) (l0_1 : List (S46)) (l1 : List (S49)) (a2 : Int) (l3 : List (S55)) : Option (Bool) := (cohousinglaw26_head.f k).bind fun t563 => ((cohousinglaw26_usable.f k l0_0 l0_1 l1 l3).bind fun t564 => (if t564 = true then (cohousinglaw26_ChainNotWorse.l0 k l1 a2 l3 t563 0 l0_0 l0_1) else (some t563)))
def cohousinglaw26_ChainNotWorse.T11 : Bool × List (List Nat × List Nat) := (true, [([], []), ([0], [0]), ([], []), ([], []), ([3], [3]), ([2, 4], [2, 4]), ([1, 5], [1, 5]), ([6], [6]), ([7, 5], [7]), ([], []), ([9], [9]), ([8, 10, 8], [8, 10]), ([11], [11])])
def cohousinglaw26_ChainNotWorse.B11 : List Nat := [0, 1, 0, 0, 8, 28, 63, 127, 255, 0, 512, 2047, 4095]
theorem cohousinglaw26_ChainNotWorse.tab11 : rtab .any (opsOf Try.f9 11) = cohousinglaw26_ChainNotWorse.T11 := by kernel_rfl
theorem cohousinglaw26_ChainNotWorse.bits11 : waitsOk cohousinglaw26_ChainNotWorse.T11.2 cohousinglaw26_ChainNotWorse.B11 = true := by kernel_rfl
def cohousinglaw26_ChainNotWorse.T13 : Bool × List (List Nat × List Nat) := (true, [([], []), ([], []), ([], []), ([2], [2]), ([], []), ([0, 1, 3, 4, 3], [0, 1, 3, 4]), ([5], [5]), ([6], [6]), ([6], [6]), ([6], [6]), ([7, 5, 0, 1, 2, 3, 4, 5, 6, 7], [7]), ([8, 10, 0, 1, 2, 3, 4, 5, 6, 7, 8, 10], [8]), ([9, 11, 0, 1, 2, 3, 4, 5, 6, 7, 8, 9, 10, 11], [9])])
def cohousinglaw26_ChainNotWorse.B13 : List Nat := [0, 0, 0, 4, 0, 31, 63, 127, 127, 127, 255, 1535, 4095]
theorem cohousinglaw26_ChainNotWorse.tab13 : rtab .any (opsOf Try.f9 13) = cohousinglaw26_ChainNotWorse.T13 := by kernel_rfl
theorem cohousinglaw26_ChainNotWorse.bits13 : waitsOk cohousinglaw26_ChainNotWorse.T13.2 cohousinglaw26_ChainNotWorse.B13 = true := by kernel_rfl
def cohousinglaw26_ChainNotWorse.T20 : Bool × List (List Nat × List Nat) := (true, [([], []), ([0], [0]), ([], []), ([1, 2], [1, 2]), ([3], [3]), ([], []), ([5], [5]), ([], []), ([6, 7], [6, 7]), ([8], [8]), ([9], [9]), ([4, 10], [4, 10]), ([11], [11]), ([12], [12]), ([12], [12]), ([13, 11, 0, 1, 2, 3, 4, 5, 6, 7, 8, 9, 10, 11, 12, 13], [13]), ([14, 15, 0, 1, 2, 3, 4, 5, 6, 7, 8, 9, 10, 11, 12, 13, 14, 15], [14])])
def cohousinglaw26_ChainNotWorse.B20 : List Nat := [0, 1, 0, 7, 15, 0, 32, 0, 224, 480, 992, 2047, 4095, 8191, 8191, 16383, 65535]
theorem cohousinglaw26_ChainNotWorse.tab20 : rtab .any (opsOf Try.f9 20) = cohousinglaw26_ChainNotWorse.T20 := by kernel_rfl
theorem cohousinglaw26_ChainNotWorse.bits20 : waitsOk cohousinglaw26_ChainNotWorse.T20.2 cohousinglaw26_ChainNotWorse.B20 = true := by kernel_rfl
def cohousinglaw26_ChainNotWorse.T21 : Bool × List (List Nat × List Nat) := (true, [([], []), ([0], [0]), ([], []), ([1, 2], [1, 2]), ([3], [3]), ([], []), ([5], [5]), ([], []), ([6, 7], [6, 7]), ([8], [8]), ([9], [9]), ([4, 10], [4, 10]), ([11], [11]), ([12], [12]), ([12], [12]), ([13, 11, 0, 1, 2, 3, 4, 5, 6, 7, 8, 9, 10, 11, 12, 13], [13]), ([14, 15, 0, 1, 2, 3, 4, 5, 6, 7, 8, 9, 10, 11, 12, 13, 14, 15], [14])])
def cohousinglaw26_ChainNotWorse.B21 : List Nat := [0, 1, 0, 7, 15, 0, 32, 0, 224, 480, 992, 2047, 4095, 8191, 8191, 16383, 65535]
theorem cohousinglaw26_ChainNotWorse.tab21 : rtab .any (opsOf Try.f9 21) = cohousinglaw26_ChainNotWorse.T21 := by kernel_rfl
theorem cohousinglaw26_ChainNotWorse.bits21 : waitsOk cohousinglaw26_ChainNotWorse.T21.2 cohousinglaw26_ChainNotWorse.B21 = true := by kernel_rfl
theorem cohousinglaw26_ChainNotWorse.calls (k : Nat) (A0_0 : Option Addr) (c0_0 : Nat) (l0_0 : List (S84)) (A0_1 : Option Addr) (c0_1 : Nat) (l0_1 : List (S46)) (A1 : Option Addr) (c1 : Nat) (l1 : List (S49)) (a2 : Int) (A3 : Option Addr) (c3 : Nat) (l3 : List (S55)) (r : Bool) (w : World) (hr0_0 : Kd.C k84 w A0_0 l0_0.length l0_0) (hc0_0 : l0_0.length ≤ c0_0) (hr0_1 : Kd.C k46 w A0_1 l0_1.length l0_1) (hc0_1 : l0_1.length ≤ c0_1) (hr1 : Kd.C k49 w A1 l1.length l1) (hc1 : l1.length ≤ c1) (hr3 : Kd.C k55 w A3 l3.length l3) (hc3 : l3.length ≤ c3) (h : cohousinglaw26_ChainNotWorse.f k l0_0 l0_1 l1 a2 l3 = some r) (hr_ : r = true := by rfl) :
  Calls Try.prog 9 #[.agg #[.slice A0_0 l0_0.length c0_0, .slice A0_1 l0_1.length c0_1], .slice A1 l1.length c1, .int .u16 a2, .slice A3 l3.length c3] w fun e w' => e = .returned (.bool r) ∧ Below w.heap.size w w' := by
 subst hr_
 have hu25 := Try.underlying25
 have hu51 := Try.underlying51
 have hu46 := Try.underlying46
 have HR0_0 := Aside0.mk hr0_0
 have HC0_0 := Aside0.mk hc0_0
 clear hr0_0 hc0_0
 have HR0_1 := Aside0.mk hr0_1
 have HC0_1 := Aside0.mk hc0_1
 clear hr0_1 hc0_1
 have HR1 := Aside0.mk hr1
 have HC1 := Aside0.mk hc1
 clear hr1 hc1
 have HR3 := Aside0.mk hr3
 have HC3 := Aside0.mk hc3
 clear hr3 hc3
 have HB := Aside0.mk (Below.refl w.heap.size w)
 have H : ((cohousinglaw26_head.f k).bind fun t563 => ((cohousinglaw26_usable.f k l0_0 l0_1 l1 l3).bind fun t564 => (if t564 = true then (cohousinglaw26_ChainNotWorse.l0 k l1 a2 l3 t563 0 l0_0 l0_1) else (some t563)))) = some true := h
 clear h
 replace H := Option.bind_eq_some_iff.mp H
 obtain ⟨t563, A50, H⟩ := H
 replace H : ((cohousinglaw26_usable.f k l0_0 l0_1 l1 l3).bind fun t564 => (if t564 = true then (cohousinglaw26_ChainNotWorse.l0 k l1 a2 l3 t563 0 l0_0 l0_1) else (some t563))) = some true := H
 have A5 := Aside0.mk A50
 clear A50
 replace H := Option.bind_eq_some_iff.mp H
 obtain ⟨t564, A60, H⟩ := H
 replace H : (if t564 = true then (cohousinglaw26_ChainNotWorse.l0 k l1 a2 l3 t563 0 l0_0 l0_1) else (some t563)) = some true := H
 have A6 := Aside0.mk A60
 clear A60
 by_cases c7 : t564 = true
 ·subst c7
  have H1 : (cohousinglaw26_ChainNotWorse.l0 k l1 a2 l3 t563 0 l0_0 l0_1) = some true := by rw [if_pos rfl] at H; exact H
  clear H
  have H := H1
  clear H1
  have H' := Aside0.mk H
  clear H
  go_enter Try.func9, Try.ntmps9
  go_wp2_with (first | ((with_reducible refine gate_dst (N := 4) rfl ?_); (try (refine gate_guard (by rfl) ?_; dsimp only)); refine box_event ?hg (N := 4) ?hd (cs := #[.slice A0_0 l0_0.length c0_0, .slice A0_1 l0_1.length c0_1]) (t := 25) ?hr ?_; (case hd => rfl); (case hg => rfl); (case hr => first | (go_simp; done) | (go_simp; rfl)); intro gb562 hg w8 hbox hb; have n0_ := Aside0.mk (below_step (bb_ HB) hb); have n1_ := Aside0.mk (hbox); have n2_ := Aside0.mk ((by rw [hg]; exact (below_size (bb_ HB)) : w.heap.size ≤ gb562)); have n3_ := Aside0.mk ((by rw [hg]; exact (below_size (bb_ HB)) : w.heap.size ≤ gb562)); clear HB; have HB := n0_; have BK562 := n1_; have GW562 := n2_; have GE562 := n3_; clear n0_ n1_ n2_ n3_; clear hb hbox hg) | ((with_reducible refine gate_callee (f := 10) rfl ?_); refine gl_ (some 23) Try.func10 #[] ?_; (with_reducible refine (cohousinglaw26_head.calls k  t563 _ A5.out).mono ?_); rintro e w9 ⟨rfl, hb⟩; refine ⟨_, rfl, ?_⟩; have n0_ := Aside0.mk (blk_below (g := gb562) (o := .cells #[.slice A0_0 l0_0.length c0_0, .slice A0_1 l0_1.length c0_1] 25 (0, 0)) (kk_ BK562) hb); have n1_ := Aside0.mk (below_step (bs_ HB GE562.out) hb); clear BK562; clear HB; have BK562 := n0_; have HB := n1_; clear n0_ n1_; (try clear hb); (try clear hb2); (try clear hk); (try clear hi); have hcz10_0 : w9.cell? ⟨gb562, 0, none⟩ = some (.slice A0_0 l0_0.length c0_0) := (blk_cell BK562.out 0).trans rfl; have hcz10_1 : w9.cell? ⟨gb562, 1, none⟩ = some (.slice A0_1 l0_1.length c0_1) := (blk_cell BK562.out 1).trans rfl; have hfz10_0 := blk_frozen BK562.out 0; have hfz10_1 := blk_frozen BK562.out 1) | ((with_reducible refine gate_callee (f := 20) rfl ?_); refine gl_ (some 27) Try.func20 #[.agg #[.slice A0_0 l0_0.length c0_0, .slice A0_1 l0_1.length c0_1], .slice A1 l1.length c1, .slice A3 l3.length c3] ?_; (with_reducible refine (cohousinglaw26_usable.calls k _ _ l0_0 _ _ l0_1 _ _ l1 _ _ l3 true _ ?side1 ?side2 ?side3 ?side4 ?side5 ?side6 ?side7 ?side8 A6.out).mono ?_); (case side1 => exact cc_ ((Kd.C_below HR0_0.out HB.out))); (case side2 => exact HC0_0.out); (case side3 => exact cc_ ((Kd.C_below HR0_1.out HB.out))); (case side4 => exact HC0_1.out); (case side5 => exact cc_ ((Kd.C_below HR1.out HB.out))); (case side6 => exact HC1.out); (case side7 => exact cc_ ((Kd.C_below HR3.out HB.out))); (case side8 => exact HC3.out); rintro e w11 ⟨rfl, hb⟩; refine ⟨_, rfl, ?_⟩; have n0_ := Aside0.mk (blk_below (g := gb562) (o := .cells #[.slice A0_0 l0_0.length c0_0, .slice A0_1 l0_1.length c0_1] 25 (0, 0)) (kk_ BK562) hb); have n1_ := Aside0.mk (below_step (bs_ HB GE562.out) hb); clear BK562; clear HB; have BK562 := n0_; have HB := n1_; clear n0_ n1_; (try clear hb); (try clear hb2); (try clear hk); (try clear hi)))
  go_loopg [10] k (fun kq v10 w' => ∃ (x10_1 : Int), v10 = .int .i64 x10_1 ∧ Aside0 (cohousinglaw26_ChainNotWorse.l0 kq l1 a2 l3 t563 x10_1 l0_0 l0_1 = some true) ∧ Aside0 (kq ≤ k) ∧ Aside0 (w'.heap[gb562]? = some (.cells #[(.slice A0_0 l0_0.length c0_0), (.slice A0_1 l0_1.length c0_1)] 25 (0, 0))) ∧ Aside0 (Below w.heap.size w w'))
  case atStart => exact ⟨(0), sd_, H', ⟨Nat.le_refl _⟩, ⟨by (with_reducible repeat (first | refine blk_drewN ?_ _ | refine blk_drew ?_ | refine blk_alloc ?_ _)); exact BK562.out⟩, ⟨by repeat (first | (with_reducible first | exact HB.out | apply below_alloc | apply pw_below_drewN | apply below_drew1 | refine below_set ?_ GE562.out) | exact HB.out)⟩⟩
  case round =>
   clear H'
   try clear c1
   try clear c2
   try clear p2
   try clear c3
   try clear c7
   try clear c9
   try clear c10
   try clear hcz10_0
   try clear hcz10_1
   try clear hfz10_0
   try clear hfz10_1
   obtain ⟨x10_1, rfl, HA, HK1, BK562, HB⟩ := hrel
   cases gk with
   | zero => exact absurd HA.out (by simp [cohousinglaw26_ChainNotWorse.l0])
   | succ k1 =>
    have H := HA.out
    clear HA
    simp only [cohousinglaw26_ChainNotWorse.l0] at H
    by_cases c12 : x10_1 < (l1.length : Int)
    ·rw [if_pos c12] at H
     have c12b0 : decide (x10_1 < (l1.length : Int)) = true := decide_eq_true c12
     clear c12
     have H' := Aside0.mk H
     clear H
     go_wp2
     go_loopg [11] k1 (fun kq v11 w' => ∃ (x11_2 : Int), v11 = .int .i64 x11_2 ∧ Aside0 (cohousinglaw26_ChainNotWorse.l1 kq l1 a2 l3 t563 x10_1 x11_2 l0_0 l0_1 = some true) ∧ Aside0 (kq ≤ k1) ∧ Aside0 (w'.heap[gb562]? = some (.cells #[(.slice A0_0 l0_0.length c0_0), (.slice A0_1 l0_1.length c0_1)] 25 (0, 0))) ∧ Aside0 (Below w.heap.size w w'))
     case atStart => exact ⟨(0), sd_, H', ⟨Nat.le_refl _⟩, ⟨by (with_reducible repeat (first | refine blk_drewN ?_ _ | refine blk_drew ?_ | refine blk_alloc ?_ _)); exact BK562.out⟩, ⟨by repeat (first | (with_reducible first | exact HB.out | apply below_alloc | apply pw_below_drewN | apply below_drew1 | refine below_set ?_ GE562.out) | exact HB.out)⟩⟩
     case round =>
      clear H'
      try clear c1
      try clear c2
      try clear p2
      try clear c3
      try clear c7
      try clear c9
      try clear c10
      try clear c12
      try clear c12b0
      try clear hcz10_0
      try clear hcz10_1
      try clear hfz10_0
      try clear hfz10_1
      try clear p2
      obtain ⟨x11_2, rfl, HA, HK2, BK562, HB⟩ := hrel
      cases gk with
      | zero => exact absurd HA.out (by simp [cohousinglaw26_ChainNotWorse.l1])
      | succ k2 =>
       have H := HA.out
       clear HA
       simp only [cohousinglaw26_ChainNotWorse.l1] at H
       by_cases c13 : 0 ≤ x10_1
       ·rw [if_pos c13] at H
        have c13b0 : decide (0 ≤ x10_1) = true := decide_eq_true c13
        clear c13
        by_cases c14 : x10_1 < (l1.length : Int)
        ·rw [if_pos c14] at H
         have c14b0 : decide (x10_1 < (l1.length : Int)) = true := decide_eq_true c14
         clear c14
         by_cases c15 : x11_2 < (((rd_T49 l1 x10_1).f1).length : Int)
         ·rw [if_pos c15] at H
          have c15b0 : decide (x11_2 < (((rd_T49 l1 x10_1).f1).length : Int)) = true := decide_eq_true c15
          clear c15
          by_cases c16 : 0 ≤ x11_2
          ·rw [if_pos c16] at H
           have c16b0 : decide (0 ≤ x11_2) = true := decide_eq_true c16
           clear c16
           replace H := Option.bind_eq_some_iff.mp H
           obtain ⟨t569, A170, H⟩ := H
           replace H : (if 0 ≤ t569 then (if t569 < (l0_1.length : Int) then ((cohousingref23_Ranking.f k2 ((rd_T46 l0_1 t569).f0) ((rd_T46 l0_1 t569).f1) ((rd_T46 l0_1 t569).f2)).bind fun t571 => ((cohousingref23_In.f k2 t571 ((rd_T51 ((rd_T49 l1 x10_1).f1) x11_2).f2)).bind fun t574 => (if t574 < 0 then (some t563) else (cohousinglaw26_ChainNotWorse.l1 k2 l1 a2 l3 t563 x10_1 (wrap64 (x11_2 + 1)) l0_0 l0_1)))) else (none)) else (none)) = some true := H
           have A17 := Aside0.mk A170
           clear A170
           by_cases c18 : 0 ≤ t569
           ·rw [if_pos c18] at H
            have c18b0 : decide (0 ≤ t569) = true := decide_eq_true c18
            clear c18
            by_cases c19 : t569 < (l0_1.length : Int)
            ·rw [if_pos c19] at H
             have c19b0 : decide (t569 < (l0_1.length : Int)) = true := decide_eq_true c19
             clear c19
             replace H := Option.bind_eq_some_iff.mp H
             obtain ⟨t571, A200, H⟩ := H
             replace H : ((cohousingref23_In.f k2 t571 ((rd_T51 ((rd_T49 l1 x10_1).f1) x11_2).f2)).bind fun t574 => (if t574 < 0 then (some t563) else (cohousinglaw26_ChainNotWorse.l1 k2 l1 a2 l3 t563 x10_1 (wrap64 (x11_2 + 1)) l0_0 l0_1))) = some true := H
             have A20 := Aside0.mk A200
             clear A200
             replace H := Option.bind_eq_some_iff.mp H
             obtain ⟨t574, A210, H⟩ := H
             replace H : (if t574 < 0 then (some t563) else (cohousinglaw26_ChainNotWorse.l1 k2 l1 a2 l3 t563 x10_1 (wrap64 (x11_2 + 1)) l0_0 l0_1)) = some true := H
             have A21 := Aside0.mk A210
             clear A210
             by_cases c22 : t574 < 0
             ·rw [if_pos c22] at H
              have c22b0 : decide (t574 < 0) = true := decide_eq_true c22
              clear c22
              have hfin_ := Option.some.inj H
              have p565 : 0 ≤ (x10_1 : Int) := od_
              have q565 : x10_1 < (l1.length : Int) := od_
              obtain ⟨ad565, A565_1, c565_1, e565, hx565_0, hx565_1, hl565_1, hi565_1⟩ := at_T49 HR1.out x10_1 p565 q565
              cases e565
              replace hx565_0 := (HB.out.cell (World.block_lt_of_cell? w _ hx565_0)).trans hx565_0
              replace hx565_1 := (HB.out.cell (World.block_lt_of_cell? w _ hx565_1)).trans hx565_1
              have HR565_1 := Aside0.mk hi565_1
              have HC565_1 := Aside0.mk hl565_1
              clear hi565_1 hl565_1
              replace p565 := eq_true p565
              replace q565 := eq_true q565
              have p566 : 0 ≤ (x10_1 : Int) := od_
              have q566 : x10_1 < (l1.length : Int) := od_
              obtain ⟨ad566, A566_1, c566_1, e566, hx566_0, hx566_1, hl566_1, hi566_1⟩ := at_T49 HR1.out x10_1 p566 q566
              obtain rfl : ad565 = ad566 := (by injection e566)
              replace hx566_0 := (HB.out.cell (World.block_lt_of_cell? w _ hx566_0)).trans hx566_0
              replace hx566_1 := (HB.out.cell (World.block_lt_of_cell? w _ hx566_1)).trans hx566_1
              have HR566_1 := Aside0.mk hi566_1
              have HC566_1 := Aside0.mk hl566_1
              clear hi566_1 hl566_1
              replace p566 := eq_true p566
              replace q566 := eq_true q566
              have ea_ := Option.some.inj (hx565_1.symm.trans hx566_1)
              injection ea_ with ea_ en_ ec_
              subst ea_
              subst ec_
              clear en_
              have p567 : 0 ≤ (x11_2 : Int) := od_
              have q567 : x11_2 < (((rd_T49 l1 x10_1).f1).length : Int) := od_
              obtain ⟨ad567, e567, hx567_0, hx567_1, hx567_2⟩ := at_T51 HR566_1.out x11_2 p567 q567
              cases e567
              replace hx567_0 := (HB.out.cell (World.block_lt_of_cell? w _ hx567_0)).trans hx567_0
              replace hx567_1 := (HB.out.cell (World.block_lt_of_cell? w _ hx567_1)).trans hx567_1
              replace hx567_2 := (HB.out.cell (World.block_lt_of_cell? w _ hx567_2)).trans hx567_2
              replace p567 := eq_true p567
              replace q567 := eq_true q567
              try go_wp2_with (first | ((with_reducible refine gate_dst (N := 12) rfl ?_); (try (refine gate_guard (by rfl) ?_; dsimp only)); refine box_event ?hg (N := 12) ?hd (cs := #[.int .i64 0, .int .i64 0, .int .i64 0]) (t := 51) ?hr ?_; (case hd => rfl); (case hg => rfl); (case hr => first | (go_simp; done) | (go_simp; rfl)); intro gb568 hg w23 hbox hb; have n0_ := Aside0.mk (blk_below (g := gb562) (o := .cells #[.slice A0_0 l0_0.length c0_0, .slice A0_1 l0_1.length c0_1] 25 (0, 0)) (kk_ BK562) hb); have n1_ := Aside0.mk (below_step (bs_ HB GE562.out) hb); have n2_ := Aside0.mk (hbox); have n3_ := Aside0.mk ((by rw [hg]; exact (below_size (bs_ HB GE562.out)) : w.heap.size ≤ gb568)); have n4_ := Aside0.mk ((by rw [hg]; exact (below_size (bs_ HB GE562.out)) : w.heap.size ≤ gb568)); have n5_ := Aside0.mk ((by rw [hg]; exact Nat.ne_of_lt (blk_lt (g := gb562) (o := .cells #[.slice A0_0 l0_0.length c0_0, .slice A0_1 l0_1.length c0_1] 25 (0, 0)) (kk_ BK562)) : gb562 ≠ gb568)); have n6_ := Aside0.mk ((by rw [hg]; exact Nat.ne_of_gt (blk_lt (g := gb562) (o := .cells #[.slice A0_0 l0_0.length c0_0, .slice A0_1 l0_1.length c0_1] 25 (0, 0)) (kk_ BK562)) : gb568 ≠ gb562)); clear BK562; clear HB; have BK562 := n0_; have HB := n1_; have BK568 := n2_; have GW568 := n3_; have GE568 := n4_; have NB562_568 := n5_; have NB568_562 := n6_; clear n0_ n1_ n2_ n3_ n4_ n5_ n6_; clear hb hbox hg; have hnb24 := NB568_562.out; have hnc24 := NB562_568.out; have hcz25_0 : w23.cell? ⟨gb568, 0, none⟩ = some (.int .i64 0) := (blk_cell BK568.out 0).trans rfl; have hcz25_1 : w23.cell? ⟨gb568, 1, none⟩ = some (.int .i64 0) := (blk_cell BK568.out 1).trans rfl; have hcz25_2 : w23.cell? ⟨gb568, 2, none⟩ = some (.int .i64 0) := (blk_cell BK568.out 2).trans rfl; have hfz25_0 := blk_frozen BK568.out 0; have hfz25_1 := blk_frozen BK568.out 1; have hfz25_2 := blk_frozen BK568.out 2))
              have n0_ : Aside0 ((((w23.setCell ⟨gb568, 0, none⟩ (.int .i64 ((rd_T51 ((rd_T49 l1 x10_1).f1) x11_2).f0))).setCell ⟨gb568, 1, none⟩ (.int .i64 ((rd_T51 ((rd_T49 l1 x10_1).f1) x11_2).f1))).setCell ⟨gb568, 2, none⟩ (.int .i64 ((rd_T51 ((rd_T49 l1 x10_1).f1) x11_2).f2))).heap[gb562]? = some (.cells #[.slice A0_0 l0_0.length c0_0, .slice A0_1 l0_1.length c0_1] 25 (0, 0))) := ⟨by (with_reducible repeat (first | refine blk_drewN ?_ _ | refine blk_drew ?_ | refine blk_alloc ?_ _)); refine blk_far ?_ NB562_568.out _; (with_reducible repeat (first | refine blk_drewN ?_ _ | refine blk_drew ?_ | refine blk_alloc ?_ _)); refine blk_far ?_ NB562_568.out _; (with_reducible repeat (first | refine blk_drewN ?_ _ | refine blk_drew ?_ | refine blk_alloc ?_ _)); refine blk_far ?_ NB562_568.out _; (with_reducible repeat (first | refine blk_drewN ?_ _ | refine blk_drew ?_ | refine blk_alloc ?_ _)); exact BK562.out⟩
              have n1_ : Aside0 ((((w23.setCell ⟨gb568, 0, none⟩ (.int .i64 ((rd_T51 ((rd_T49 l1 x10_1).f1) x11_2).f0))).setCell ⟨gb568, 1, none⟩ (.int .i64 ((rd_T51 ((rd_T49 l1 x10_1).f1) x11_2).f1))).setCell ⟨gb568, 2, none⟩ (.int .i64 ((rd_T51 ((rd_T49 l1 x10_1).f1) x11_2).f2))).heap[gb568]? = some (.cells #[.int .i64 ((rd_T51 ((rd_T49 l1 x10_1).f1) x11_2).f0), .int .i64 ((rd_T51 ((rd_T49 l1 x10_1).f1) x11_2).f1), .int .i64 ((rd_T51 ((rd_T49 l1 x10_1).f1) x11_2).f2)] 51 (0, 0))) := ⟨by (with_reducible repeat (first | refine blk_drewN ?_ _ | refine blk_drew ?_ | refine blk_alloc ?_ _)); refine blk_put (cs := #[.int .i64 ((rd_T51 ((rd_T49 l1 x10_1).f1) x11_2).f0), .int .i64 ((rd_T51 ((rd_T49 l1 x10_1).f1) x11_2).f1), .int .i64 0]) ?_ 2 _ rfl; (with_reducible repeat (first | refine blk_drewN ?_ _ | refine blk_drew ?_ | refine blk_alloc ?_ _)); refine blk_put (cs := #[.int .i64 ((rd_T51 ((rd_T49 l1 x10_1).f1) x11_2).f0), .int .i64 0, .int .i64 0]) ?_ 1 _ rfl; (with_reducible repeat (first | refine blk_drewN ?_ _ | refine blk_drew ?_ | refine blk_alloc ?_ _)); refine blk_put (cs := #[.int .i64 0, .int .i64 0, .int .i64 0]) ?_ 0 _ rfl; (with_reducible repeat (first | refine blk_drewN ?_ _ | refine blk_drew ?_ | refine blk_alloc ?_ _)); exact BK568.out⟩
              have n2_ : Aside0 (Below w.heap.size w (((w23.setCell ⟨gb568, 0, none⟩ (.int .i64 ((rd_T51 ((rd_T49 l1 x10_1).f1) x11_2).f0))).setCell ⟨gb568, 1, none⟩ (.int .i64 ((rd_T51 ((rd_T49 l1 x10_1).f1) x11_2).f1))).setCell ⟨gb568, 2, none⟩ (.int .i64 ((rd_T51 ((rd_T49 l1 x10_1).f1) x11_2).f2)))) := ⟨by repeat (first | (with_reducible first | exact HB.out | apply below_alloc | apply pw_below_drewN | apply below_drew1 | refine below_set ?_ GE562.out | refine below_set ?_ GE568.out) | exact HB.out)⟩
              (try clear BK562)
              (try clear BK568)
              (try clear HB)
              generalize (((w23.setCell ⟨gb568, 0, none⟩ (.int .i64 ((rd_T51 ((rd_T49 l1 x10_1).f1) x11_2).f0))).setCell ⟨gb568, 1, none⟩ (.int .i64 ((rd_T51 ((rd_T49 l1 x10_1).f1) x11_2).f1))).setCell ⟨gb568, 2, none⟩ (.int .i64 ((rd_T51 ((rd_T49 l1 x10_1).f1) x11_2).f2))) = w26 at n0_ n1_ n2_ ⊢
              have BK562 := n0_
              have BK568 := n1_
              have HB := n2_
              clear n0_ n1_ n2_
              have n0_ := Aside0.mk (blk_drew BK562.out)
              have n1_ := Aside0.mk (blk_drew BK568.out)
              have n2_ := Aside0.mk (below_drew1 HB.out)
              clear BK562
              clear BK568
              clear HB
              have BK562 := n0_
              have BK568 := n1_
              have HB := n2_
              clear n0_ n1_ n2_
              have p570 : 0 ≤ (t569 : Int) := od_
              have q570 : t569 < (l0_1.length : Int) := od_
              obtain ⟨ad570, A570_2, c570_2, e570, hx570_0, hx570_1, hx570_2, hl570_2, hi570_2⟩ := at_T46 HR0_1.out t569 p570 q570
              have hw570_2 := hx570_2
              have hw570_1 := hx570_1
              have hw570_0 := hx570_0
              cases e570
              replace hx570_0 := (HB.out.cell (World.block_lt_of_cell? w _ hx570_0)).trans hx570_0
              replace hx570_1 := (HB.out.cell (World.block_lt_of_cell? w _ hx570_1)).trans hx570_1
              replace hx570_2 := (HB.out.cell (World.block_lt_of_cell? w _ hx570_2)).trans hx570_2
              have HR570_2 := Aside0.mk hi570_2
              have HC570_2 := Aside0.mk hl570_2
              clear hi570_2 hl570_2
              replace p570 := eq_true p570
              replace q570 := eq_true q570
              refine start_ (n := 13) (S := fun w' => w'.cell? ⟨gb562, 0, none⟩ = some (.slice A0_0 l0_0.length c0_0) ∧ w'.cell? ⟨gb562, 1, none⟩ = some (.slice (some ad570) l0_1.length c0_1) ∧ w'.cell? ⟨gb568, 0, none⟩ = some (.int .i64 ((rd_T51 ((rd_T49 l1 x10_1).f1) x11_2).f0)) ∧ w'.cell? ⟨gb568, 1, none⟩ = some (.int .i64 ((rd_T51 ((rd_T49 l1 x10_1).f1) x11_2).f1)) ∧ w'.cell? ⟨gb568, 2, none⟩ = some (.int .i64 ((rd_T51 ((rd_T49 l1 x10_1).f1) x11_2).f2)) ∧ w'.cell? (ad570.add ((t569).toNat * 3)) = some (.int .i64 ((rd_T46 l0_1 t569).f0)) ∧ w'.cell? ⟨(ad570.add ((t569).toNat * 3)).block, (ad570.add ((t569).toNat * 3)).off + 1, none⟩ = some (.int .i64 ((rd_T46 l0_1 t569).f1)) ∧ w'.cell? ⟨(ad570.add ((t569).toNat * 3)).block, (ad570.add ((t569).toNat * 3)).off + 2, none⟩ = some (.slice A570_2 ((rd_T46 l0_1 t569).f2).length c570_2)) (ds := []) #[n_, n_, n_, n_, n_, n_, n_, n_, n_, n_, n_, n_, n_] (by kernel_rfl) rfl rfl ⟨(blk_cell BK562.out 0).trans rfl, (blk_cell BK562.out 1).trans rfl, (blk_cell BK568.out 0).trans rfl, (blk_cell BK568.out 1).trans rfl, (blk_cell BK568.out 2).trans rfl, ((HB.out.cell (World.block_lt_of_cell? w _ hw570_0)).trans hw570_0), ((HB.out.cell (World.block_lt_of_cell? w _ hw570_1)).trans hw570_1), ((HB.out.cell (World.block_lt_of_cell? w _ hw570_2)).trans hw570_2)⟩ (fun hHeld => ?_); refine with_tabW cohousinglaw26_ChainNotWorse.tab11 cohousinglaw26_ChainNotWorse.bits11 (fun HT_ HW_ => ?_)
              generalize w26.drew = w27 at BK562 BK568 HB HR570_2 hx570_0 hx570_1 hx570_2 hHeld ⊢
              refine pu_ 0 54 (w_ 13 1) rfl HT_ ?_
              refine pu_ 3 57 (w_ 13 9) rfl HT_ ?_
              refine pu_ 9 63 (w_ 13 521) rfl HT_ ?_
              refine ta_ 1 55 (w_ 13 523) rfl HT_ HW_ hHeld (by rintro w' ⟨s0, s1, s2, s3, s4, s5, s6, s7⟩; go_simp; with_reducible rfl) ?_
              refine ta_ 2 56 (w_ 13 527) rfl HT_ HW_ hHeld (by rintro w' ⟨s0, s1, s2, s3, s4, s5, s6, s7⟩; go_simp; with_reducible rfl) ?_
              refine ta_ 4 58 (w_ 13 543) rfl HT_ HW_ hHeld (by rintro w' ⟨s0, s1, s2, s3, s4, s5, s6, s7⟩; go_simp; with_reducible rfl) ?_
              refine ta_ 10 64 (w_ 13 1567) rfl HT_ HW_ hHeld (by rintro w' ⟨s0, s1, s2, s3, s4, s5, s6, s7⟩; go_simp; with_reducible rfl) ?_
              refine one_ (i := 5) (N := some 59) (w_ 13 1599) rfl rfl (one_of HT_.out (by kernel_rfl)) (by decide) (fun K hK => ?_)
              refine goes_ Try.func27 (by kernel_rfl) rfl #[.agg #[.slice A0_0 l0_0.length c0_0, .slice (some ad570) l0_1.length c0_1], .int .i64 ((rd_T51 ((rd_T49 l1 x10_1).f1) x11_2).f0)] (by rfl) rfl rfl (by (try simp only [List.map_toArray, List.map_cons, List.map_nil]); first | done | rfl | (simp only [List.length_drop, List.length_take]; rfl)) ?_
              with_reducible refine (cohousingref26_Party.calls k2 _ _ l0_0 _ _ l0_1 ((rd_T51 ((rd_T49 l1 x10_1).f1) x11_2).f0) t569 _ ?side1 ?side2 ?side3 ?side4 A17.out).mono ?_
              (case side1 => exact cc_ ((Kd.C_below HR0_0.out HB.out)))
              (case side2 => exact HC0_0.out)
              (case side3 => exact cc_ ((Kd.C_below HR0_1.out HB.out)))
              (case side4 => exact HC0_1.out)
              rintro e w28 ⟨rfl, hb⟩
              refine ⟨_, rfl, ?_⟩
              have n0_ := Aside0.mk (blk_below (g := gb562) (o := .cells #[.slice A0_0 l0_0.length c0_0, .slice (some ad570) l0_1.length c0_1] 25 (0, 0)) (kk_ BK562) hb)
              have n1_ := Aside0.mk (blk_below (g := gb568) (o := .cells #[.int .i64 ((rd_T51 ((rd_T49 l1 x10_1).f1) x11_2).f0), .int .i64 ((rd_T51 ((rd_T49 l1 x10_1).f1) x11_2).f1), .int .i64 ((rd_T51 ((rd_T49 l1 x10_1).f1) x11_2).f2)] 51 (0, 0)) (kk_ BK568) hb)
              have n2_ := Aside0.mk (below_step (by repeat (first | (with_reducible first | exact HB.out | apply below_alloc | apply pw_below_drewN | apply below_drew1 | refine below_set ?_ GE562.out | refine below_set ?_ GE568.out) | exact HB.out)) hb)
              clear BK562
              clear BK568
              clear HB
              have BK562 := n0_
              have BK568 := n1_
              have HB := n2_
              clear n0_ n1_ n2_
              (try clear hb)
              (try clear hb2)
              (try clear hk)
              (try clear hi)
              refine hK.out _ _ ⟨(blk_cell BK562.out 0).trans rfl, (blk_cell BK562.out 1).trans rfl, (blk_cell BK568.out 0).trans rfl, (blk_cell BK568.out 1).trans rfl, (blk_cell BK568.out 2).trans rfl, ((HB.out.cell (World.block_lt_of_cell? w _ hw570_0)).trans hw570_0), ((HB.out.cell (World.block_lt_of_cell? w _ hw570_1)).trans hw570_1), ((HB.out.cell (World.block_lt_of_cell? w _ hw570_2)).trans hw570_2)⟩ (fun hHeld => ?_)
              clear hK K
              refine norm_ (a' := ?_) ?_ ?_
              rotate_left
              ·show Act.put _ (some 59) _ = _
               simp only [Act.put, sI_, s0_, sS_, i64_w, i32_w]
               rfl
              refine pu_ 6 60 (w_ 13 1663) rfl HT_ ?_
              refine ta_ 7 61 (w_ 13 1791) rfl HT_ HW_ hHeld (by rintro w' ⟨s0, s1, s2, s3, s4, s5, s6, s7⟩; go_simp; with_reducible rfl) ?_
              refine one_ (i := 8) (N := some 62) (w_ 13 2047) rfl rfl (one_of HT_.out (by kernel_rfl)) (by decide) (fun K hK => ?_)
              refine goes_ Try.func26 (by kernel_rfl) rfl #[.agg #[.int .i64 ((rd_T46 l0_1 t569).f0), .int .i64 ((rd_T46 l0_1 t569).f1), .slice A570_2 ((rd_T46 l0_1 t569).f2).length c570_2]] (by rfl) rfl rfl (by (try simp only [List.map_toArray, List.map_cons, List.map_nil]); first | done | rfl | (simp only [List.length_drop, List.length_take]; rfl)) ?_
              with_reducible refine (cohousingref23_Ranking.calls k2 ((rd_T46 l0_1 t569).f0) ((rd_T46 l0_1 t569).f1) _ _ ((rd_T46 l0_1 t569).f2) t571 _ ?side1 ?side2 A20.out).mono ?_
              (case side1 => exact cc_ ((Kd.C_below HR570_2.out HB.out)))
              (case side2 => exact HC570_2.out)
              rintro e w29 ⟨v572, rfl, ho0, hb⟩
              refine ⟨_, rfl, ?_⟩
              have n0_ := Aside0.mk (Kd.R_lower ho0 (below_size (by repeat (first | (with_reducible first | exact HB.out | apply below_alloc | apply pw_below_drewN | apply below_drew1 | refine below_set ?_ GE562.out | refine below_set ?_ GE568.out) | exact HB.out))))
              have n1_ := Aside0.mk (blk_below (g := gb562) (o := .cells #[.slice A0_0 l0_0.length c0_0, .slice (some ad570) l0_1.length c0_1] 25 (0, 0)) (kk_ BK562) hb)
              have n2_ := Aside0.mk (blk_below (g := gb568) (o := .cells #[.int .i64 ((rd_T51 ((rd_T49 l1 x10_1).f1) x11_2).f0), .int .i64 ((rd_T51 ((rd_T49 l1 x10_1).f1) x11_2).f1), .int .i64 ((rd_T51 ((rd_T49 l1 x10_1).f1) x11_2).f2)] 51 (0, 0)) (kk_ BK568) hb)
              have n3_ := Aside0.mk (below_step (by repeat (first | (with_reducible first | exact HB.out | apply below_alloc | apply pw_below_drewN | apply below_drew1 | refine below_set ?_ GE562.out | refine below_set ?_ GE568.out) | exact HB.out)) hb)
              clear BK562
              clear BK568
              clear HB
              have HO573 := n0_
              have BK562 := n1_
              have BK568 := n2_
              have HB := n3_
              clear n0_ n1_ n2_ n3_
              (try clear hb)
              (try clear hb2)
              (try clear hk)
              (try clear hi)
              (try clear ho0)
              obtain ⟨Ao30, co30, eo30⟩ := Kd.R_slice HO573.out
              (first | subst eo30 | (injection eo30 with f1_ f2_ f3_; have f4_ := f1_.symm; have f5_ := f3_.symm; clear f1_ f2_ f3_; subst f4_; subst f5_))
              refine hK.out _ _ ⟨(blk_cell BK562.out 0).trans rfl, (blk_cell BK562.out 1).trans rfl, (blk_cell BK568.out 0).trans rfl, (blk_cell BK568.out 1).trans rfl, (blk_cell BK568.out 2).trans rfl, ((HB.out.cell (World.block_lt_of_cell? w _ hw570_0)).trans hw570_0), ((HB.out.cell (World.block_lt_of_cell? w _ hw570_1)).trans hw570_1), ((HB.out.cell (World.block_lt_of_cell? w _ hw570_2)).trans hw570_2)⟩ (fun hHeld => ?_)
              clear hK K
              refine norm_ (a' := ?_) ?_ ?_
              rotate_left
              ·show Act.put _ (some 62) _ = _
               simp only [Act.put, sI_, s0_, sS_, i64_w, i32_w]
               rfl
              refine one_ (i := 11) (N := some 65) (w_ 13 4095) rfl rfl (one_of HT_.out (by kernel_rfl)) (by decide) (fun K hK => ?_)
              refine goes_ Try.func24 (by kernel_rfl) rfl #[.slice Ao30 t571.length co30, .int .i64 ((rd_T51 ((rd_T49 l1 x10_1).f1) x11_2).f2)] (by rfl) rfl rfl (by (try simp only [List.map_toArray, List.map_cons, List.map_nil]); first | done | rfl | (simp only [List.length_drop, List.length_take]; rfl)) ?_
              with_reducible refine (cohousingref23_In.calls k2 _ _ t571 ((rd_T51 ((rd_T49 l1 x10_1).f1) x11_2).f2) t574 _ ?side1 ?side2 A21.out).mono ?_
              (case side1 => exact cc_ ((Kd.R_reads' HO573.out).2.2))
              (case side2 => exact (Kd.R_reads' HO573.out).2.1)
              rintro e w' ⟨rfl, ⟨nd, rfl⟩⟩
              refine ⟨_, rfl, ?_⟩
              refine hK.out _ _ ⟨(blk_cell BK562.out 0).trans rfl, (blk_cell BK562.out 1).trans rfl, (blk_cell BK568.out 0).trans rfl, (blk_cell BK568.out 1).trans rfl, (blk_cell BK568.out 2).trans rfl, ((HB.out.cell (World.block_lt_of_cell? w _ hw570_0)).trans hw570_0), ((HB.out.cell (World.block_lt_of_cell? w _ hw570_1)).trans hw570_1), ((HB.out.cell (World.block_lt_of_cell? w _ hw570_2)).trans hw570_2)⟩ (fun hHeld => ?_)
              clear hK K
              refine norm_ (a' := ?_) ?_ ?_
              rotate_left
              ·show Act.put _ (some 65) _ = _
               simp only [Act.put, sI_, s0_, sS_, i64_w, i32_w]
               rfl
              refine pu_ 12 66 (w_ 13 8191) rfl HT_ ?_
              refine done_ (done_of HT_.out (by kernel_rfl)) ?_
              try go_wp2
              go_ret
              exact ⟨ew_, by repeat (first | (with_reducible first | exact HB.out | apply below_alloc | apply pw_below_drewN | apply below_drew1 | refine below_set ?_ GE562.out | refine below_set ?_ GE568.out) | exact HB.out)⟩
             ·rw [if_neg c22] at H
              have c22b0 : decide (t574 < 0) = false := decide_eq_false c22
              clear c22
              have H' := Aside0.mk H
              clear H
              have p565 : 0 ≤ (x10_1 : Int) := od_
              have q565 : x10_1 < (l1.length : Int) := od_
              obtain ⟨ad565, A565_1, c565_1, e565, hx565_0, hx565_1, hl565_1, hi565_1⟩ := at_T49 HR1.out x10_1 p565 q565
              cases e565
              replace hx565_0 := (HB.out.cell (World.block_lt_of_cell? w _ hx565_0)).trans hx565_0
              replace hx565_1 := (HB.out.cell (World.block_lt_of_cell? w _ hx565_1)).trans hx565_1
              have HR565_1 := Aside0.mk hi565_1
              have HC565_1 := Aside0.mk hl565_1
              clear hi565_1 hl565_1
              replace p565 := eq_true p565
              replace q565 := eq_true q565
              have p566 : 0 ≤ (x10_1 : Int) := od_
              have q566 : x10_1 < (l1.length : Int) := od_
              obtain ⟨ad566, A566_1, c566_1, e566, hx566_0, hx566_1, hl566_1, hi566_1⟩ := at_T49 HR1.out x10_1 p566 q566
              obtain rfl : ad565 = ad566 := (by injection e566)
              replace hx566_0 := (HB.out.cell (World.block_lt_of_cell? w _ hx566_0)).trans hx566_0
              replace hx566_1 := (HB.out.cell (World.block_lt_of_cell? w _ hx566_1)).trans hx566_1
              have HR566_1 := Aside0.mk hi566_1
              have HC566_1 := Aside0.mk hl566_1
              clear hi566_1 hl566_1
              replace p566 := eq_true p566
              replace q566 := eq_true q566
              have ea_ := Option.some.inj (hx565_1.symm.trans hx566_1)
              injection ea_ with ea_ en_ ec_
              subst ea_
              subst ec_
              clear en_
              have p567 : 0 ≤ (x11_2 : Int) := od_
              have q567 : x11_2 < (((rd_T49 l1 x10_1).f1).length : Int) := od_
              obtain ⟨ad567, e567, hx567_0, hx567_1, hx567_2⟩ := at_T51 HR566_1.out x11_2 p567 q567
              cases e567
              replace hx567_0 := (HB.out.cell (World.block_lt_of_cell? w _ hx567_0)).trans hx567_0
              replace hx567_1 := (HB.out.cell (World.block_lt_of_cell? w _ hx567_1)).trans hx567_1
              replace hx567_2 := (HB.out.cell (World.block_lt_of_cell? w _ hx567_2)).trans hx567_2
              replace p567 := eq_true p567
              replace q567 := eq_true q567
              try go_wp2_with (first | ((with_reducible refine gate_dst (N := 12) rfl ?_); (try (refine gate_guard (by rfl) ?_; dsimp only)); refine box_event ?hg (N := 12) ?hd (cs := #[.int .i64 0, .int .i64 0, .int .i64 0]) (t := 51) ?hr ?_; (case hd => rfl); (case hg => rfl); (case hr => first | (go_simp; done) | (go_simp; rfl)); intro gb568 hg w31 hbox hb; have n0_ := Aside0.mk (blk_below (g := gb562) (o := .cells #[.slice A0_0 l0_0.length c0_0, .slice A0_1 l0_1.length c0_1] 25 (0, 0)) (kk_ BK562) hb); have n1_ := Aside0.mk (below_step (bs_ HB GE562.out) hb); have n2_ := Aside0.mk (hbox); have n3_ := Aside0.mk ((by rw [hg]; exact (below_size (bs_ HB GE562.out)) : w.heap.size ≤ gb568)); have n4_ := Aside0.mk ((by rw [hg]; exact (below_size (bs_ HB GE562.out)) : w.heap.size ≤ gb568)); have n5_ := Aside0.mk ((by rw [hg]; exact Nat.ne_of_lt (blk_lt (g := gb562) (o := .cells #[.slice A0_0 l0_0.length c0_0, .slice A0_1 l0_1.length c0_1] 25 (0, 0)) (kk_ BK562)) : gb562 ≠ gb568)); have n6_ := Aside0.mk ((by rw [hg]; exact Nat.ne_of_gt (blk_lt (g := gb562) (o := .cells #[.slice A0_0 l0_0.length c0_0, .slice A0_1 l0_1.length c0_1] 25 (0, 0)) (kk_ BK562)) : gb568 ≠ gb562)); clear BK562; clear HB; have BK562 := n0_; have HB := n1_; have BK568 := n2_; have GW568 := n3_; have GE568 := n4_; have NB562_568 := n5_; have NB568_562 := n6_; clear n0_ n1_ n2_ n3_ n4_ n5_ n6_; clear hb hbox hg; have hnb32 := NB568_562.out; have hnc32 := NB562_568.out; have hcz33_0 : w31.cell? ⟨gb568, 0, none⟩ = some (.int .i64 0) := (blk_cell BK568.out 0).trans rfl; have hcz33_1 : w31.cell? ⟨gb568, 1, none⟩ = some (.int .i64 0) := (blk_cell BK568.out 1).trans rfl; have hcz33_2 : w31.cell? ⟨gb568, 2, none⟩ = some (.int .i64 0) := (blk_cell BK568.out 2).trans rfl; have hfz33_0 := blk_frozen BK568.out 0; have hfz33_1 := blk_frozen BK568.out 1; have hfz33_2 := blk_frozen BK568.out 2))
              have n0_ : Aside0 ((((w31.setCell ⟨gb568, 0, none⟩ (.int .i64 ((rd_T51 ((rd_T49 l1 x10_1).f1) x11_2).f0))).setCell ⟨gb568, 1, none⟩ (.int .i64 ((rd_T51 ((rd_T49 l1 x10_1).f1) x11_2).f1))).setCell ⟨gb568, 2, none⟩ (.int .i64 ((rd_T51 ((rd_T49 l1 x10_1).f1) x11_2).f2))).heap[gb562]? = some (.cells #[.slice A0_0 l0_0.length c0_0, .slice A0_1 l0_1.length c0_1] 25 (0, 0))) := ⟨by (with_reducible repeat (first | refine blk_drewN ?_ _ | refine blk_drew ?_ | refine blk_alloc ?_ _)); refine blk_far ?_ NB562_568.out _; (with_reducible repeat (first | refine blk_drewN ?_ _ | refine blk_drew ?_ | refine blk_alloc ?_ _)); refine blk_far ?_ NB562_568.out _; (with_reducible repeat (first | refine blk_drewN ?_ _ | refine blk_drew ?_ | refine blk_alloc ?_ _)); refine blk_far ?_ NB562_568.out _; (with_reducible repeat (first | refine blk_drewN ?_ _ | refine blk_drew ?_ | refine blk_alloc ?_ _)); exact BK562.out⟩
              have n1_ : Aside0 ((((w31.setCell ⟨gb568, 0, none⟩ (.int .i64 ((rd_T51 ((rd_T49 l1 x10_1).f1) x11_2).f0))).setCell ⟨gb568, 1, none⟩ (.int .i64 ((rd_T51 ((rd_T49 l1 x10_1).f1) x11_2).f1))).setCell ⟨gb568, 2, none⟩ (.int .i64 ((rd_T51 ((rd_T49 l1 x10_1).f1) x11_2).f2))).heap[gb568]? = some (.cells #[.int .i64 ((rd_T51 ((rd_T49 l1 x10_1).f1) x11_2).f0), .int .i64 ((rd_T51 ((rd_T49 l1 x10_1).f1) x11_2).f1), .int .i64 ((rd_T51 ((rd_T49 l1 x10_1).f1) x11_2).f2)] 51 (0, 0))) := ⟨by (with_reducible repeat (first | refine blk_drewN ?_ _ | refine blk_drew ?_ | refine blk_alloc ?_ _)); refine blk_put (cs := #[.int .i64 ((rd_T51 ((rd_T49 l1 x10_1).f1) x11_2).f0), .int .i64 ((rd_T51 ((rd_T49 l1 x10_1).f1) x11_2).f1), .int .i64 0]) ?_ 2 _ rfl; (with_reducible repeat (first | refine blk_drewN ?_ _ | refine blk_drew ?_ | refine blk_alloc ?_ _)); refine blk_put (cs := #[.int .i64 ((rd_T51 ((rd_T49 l1 x10_1).f1) x11_2).f0), .int .i64 0, .int .i64 0]) ?_ 1 _ rfl; (with_reducible repeat (first | refine blk_drewN ?_ _ | refine blk_drew ?_ | refine blk_alloc ?_ _)); refine blk_put (cs := #[.int .i64 0, .int .i64 0, .int .i64 0]) ?_ 0 _ rfl; (with_reducible repeat (first | refine blk_drewN ?_ _ | refine blk_drew ?_ | refine blk_alloc ?_ _)); exact BK568.out⟩
              have n2_ : Aside0 (Below w.heap.size w (((w31.setCell ⟨gb568, 0, none⟩ (.int .i64 ((rd_T51 ((rd_T49 l1 x10_1).f1) x11_2).f0))).setCell ⟨gb568, 1, none⟩ (.int .i64 ((rd_T51 ((rd_T49 l1 x10_1).f1) x11_2).f1))).setCell ⟨gb568, 2, none⟩ (.int .i64 ((rd_T51 ((rd_T49 l1 x10_1).f1) x11_2).f2)))) := ⟨by repeat (first | (with_reducible first | exact HB.out | apply below_alloc | apply pw_below_drewN | apply below_drew1 | refine below_set ?_ GE562.out | refine below_set ?_ GE568.out) | exact HB.out)⟩
              (try clear BK562)
              (try clear BK568)
              (try clear HB)
              generalize (((w31.setCell ⟨gb568, 0, none⟩ (.int .i64 ((rd_T51 ((rd_T49 l1 x10_1).f1) x11_2).f0))).setCell ⟨gb568, 1, none⟩ (.int .i64 ((rd_T51 ((rd_T49 l1 x10_1).f1) x11_2).f1))).setCell ⟨gb568, 2, none⟩ (.int .i64 ((rd_T51 ((rd_T49 l1 x10_1).f1) x11_2).f2))) = w34 at n0_ n1_ n2_ ⊢
              have BK562 := n0_
              have BK568 := n1_
              have HB := n2_
              clear n0_ n1_ n2_
              have n0_ := Aside0.mk (blk_drew BK562.out)
              have n1_ := Aside0.mk (blk_drew BK568.out)
              have n2_ := Aside0.mk (below_drew1 HB.out)
              clear BK562
              clear BK568
              clear HB
              have BK562 := n0_
              have BK568 := n1_
              have HB := n2_
              clear n0_ n1_ n2_
              have p570 : 0 ≤ (t569 : Int) := od_
              have q570 : t569 < (l0_1.length : Int) := od_
              obtain ⟨ad570, A570_2, c570_2, e570, hx570_0, hx570_1, hx570_2, hl570_2, hi570_2⟩ := at_T46 HR0_1.out t569 p570 q570
              have hw570_2 := hx570_2
              have hw570_1 := hx570_1
              have hw570_0 := hx570_0
              cases e570
              replace hx570_0 := (HB.out.cell (World.block_lt_of_cell? w _ hx570_0)).trans hx570_0
              replace hx570_1 := (HB.out.cell (World.block_lt_of_cell? w _ hx570_1)).trans hx570_1
              replace hx570_2 := (HB.out.cell (World.block_lt_of_cell? w _ hx570_2)).trans hx570_2
              have HR570_2 := Aside0.mk hi570_2
              have HC570_2 := Aside0.mk hl570_2
              clear hi570_2 hl570_2
              replace p570 := eq_true p570
              replace q570 := eq_true q570
              refine start_ (n := 13) (S := fun w' => w'.cell? ⟨gb562, 0, none⟩ = some (.slice A0_0 l0_0.length c0_0) ∧ w'.cell? ⟨gb562, 1, none⟩ = some (.slice (some ad570) l0_1.length c0_1) ∧ w'.cell? ⟨gb568, 0, none⟩ = some (.int .i64 ((rd_T51 ((rd_T49 l1 x10_1).f1) x11_2).f0)) ∧ w'.cell? ⟨gb568, 1, none⟩ = some (.int .i64 ((rd_T51 ((rd_T49 l1 x10_1).f1) x11_2).f1)) ∧ w'.cell? ⟨gb568, 2, none⟩ = some (.int .i64 ((rd_T51 ((rd_T49 l1 x10_1).f1) x11_2).f2)) ∧ w'.cell? (ad570.add ((t569).toNat * 3)) = some (.int .i64 ((rd_T46 l0_1 t569).f0)) ∧ w'.cell? ⟨(ad570.add ((t569).toNat * 3)).block, (ad570.add ((t569).toNat * 3)).off + 1, none⟩ = some (.int .i64 ((rd_T46 l0_1 t569).f1)) ∧ w'.cell? ⟨(ad570.add ((t569).toNat * 3)).block, (ad570.add ((t569).toNat * 3)).off + 2, none⟩ = some (.slice A570_2 ((rd_T46 l0_1 t569).f2).length c570_2)) (ds := []) #[n_, n_, n_, n_, n_, n_, n_, n_, n_, n_, n_, n_, n_] (by kernel_rfl) rfl rfl ⟨(blk_cell BK562.out 0).trans rfl, (blk_cell BK562.out 1).trans rfl, (blk_cell BK568.out 0).trans rfl, (blk_cell BK568.out 1).trans rfl, (blk_cell BK568.out 2).trans rfl, ((HB.out.cell (World.block_lt_of_cell? w _ hw570_0)).trans hw570_0), ((HB.out.cell (World.block_lt_of_cell? w _ hw570_1)).trans hw570_1), ((HB.out.cell (World.block_lt_of_cell? w _ hw570_2)).trans hw570_2)⟩ (fun hHeld => ?_); refine with_tabW cohousinglaw26_ChainNotWorse.tab11 cohousinglaw26_ChainNotWorse.bits11 (fun HT_ HW_ => ?_)
              generalize w34.drew = w35 at BK562 BK568 HB HR570_2 hx570_0 hx570_1 hx570_2 hHeld ⊢
              refine pu_ 0 54 (w_ 13 1) rfl HT_ ?_
              refine pu_ 3 57 (w_ 13 9) rfl HT_ ?_
              refine pu_ 9 63 (w_ 13 521) rfl HT_ ?_
              refine ta_ 1 55 (w_ 13 523) rfl HT_ HW_ hHeld (by rintro w' ⟨s0, s1, s2, s3, s4, s5, s6, s7⟩; go_simp; with_reducible rfl) ?_
              refine ta_ 2 56 (w_ 13 527) rfl HT_ HW_ hHeld (by rintro w' ⟨s0, s1, s2, s3, s4, s5, s6, s7⟩; go_simp; with_reducible rfl) ?_
              refine ta_ 4 58 (w_ 13 543) rfl HT_ HW_ hHeld (by rintro w' ⟨s0, s1, s2, s3, s4, s5, s6, s7⟩; go_simp; with_reducible rfl) ?_
              refine ta_ 10 64 (w_ 13 1567) rfl HT_ HW_ hHeld (by rintro w' ⟨s0, s1, s2, s3, s4, s5, s6, s7⟩; go_simp; with_reducible rfl) ?_
              refine one_ (i := 5) (N := some 59) (w_ 13 1599) rfl rfl (one_of HT_.out (by kernel_rfl)) (by decide) (fun K hK => ?_)
              refine goes_ Try.func27 (by kernel_rfl) rfl #[.agg #[.slice A0_0 l0_0.length c0_0, .slice (some ad570) l0_1.length c0_1], .int .i64 ((rd_T51 ((rd_T49 l1 x10_1).f1) x11_2).f0)] (by rfl) rfl rfl (by (try simp only [List.map_toArray, List.map_cons, List.map_nil]); first | done | rfl | (simp only [List.length_drop, List.length_take]; rfl)) ?_
              with_reducible refine (cohousingref26_Party.calls k2 _ _ l0_0 _ _ l0_1 ((rd_T51 ((rd_T49 l1 x10_1).f1) x11_2).f0) t569 _ ?side1 ?side2 ?side3 ?side4 A17.out).mono ?_
              (case side1 => exact cc_ ((Kd.C_below HR0_0.out HB.out)))
              (case side2 => exact HC0_0.out)
              (case side3 => exact cc_ ((Kd.C_below HR0_1.out HB.out)))
              (case side4 => exact HC0_1.out)
              rintro e w36 ⟨rfl, hb⟩
              refine ⟨_, rfl, ?_⟩
              have n0_ := Aside0.mk (blk_below (g := gb562) (o := .cells #[.slice A0_0 l0_0.length c0_0, .slice (some ad570) l0_1.length c0_1] 25 (0, 0)) (kk_ BK562) hb)
              have n1_ := Aside0.mk (blk_below (g := gb568) (o := .cells #[.int .i64 ((rd_T51 ((rd_T49 l1 x10_1).f1) x11_2).f0), .int .i64 ((rd_T51 ((rd_T49 l1 x10_1).f1) x11_2).f1), .int .i64 ((rd_T51 ((rd_T49 l1 x10_1).f1) x11_2).f2)] 51 (0, 0)) (kk_ BK568) hb)
              have n2_ := Aside0.mk (below_step (by repeat (first | (with_reducible first | exact HB.out | apply below_alloc | apply pw_below_drewN | apply below_drew1 | refine below_set ?_ GE562.out | refine below_set ?_ GE568.out) | exact HB.out)) hb)
              clear BK562
              clear BK568
              clear HB
              have BK562 := n0_
              have BK568 := n1_
              have HB := n2_
              clear n0_ n1_ n2_
              (try clear hb)
              (try clear hb2)
              (try clear hk)
              (try clear hi)
              refine hK.out _ _ ⟨(blk_cell BK562.out 0).trans rfl, (blk_cell BK562.out 1).trans rfl, (blk_cell BK568.out 0).trans rfl, (blk_cell BK568.out 1).trans rfl, (blk_cell BK568.out 2).trans rfl, ((HB.out.cell (World.block_lt_of_cell? w _ hw570_0)).trans hw570_0), ((HB.out.cell (World.block_lt_of_cell? w _ hw570_1)).trans hw570_1), ((HB.out.cell (World.block_lt_of_cell? w _ hw570_2)).trans hw570_2)⟩ (fun hHeld => ?_)
              clear hK K
              refine norm_ (a' := ?_) ?_ ?_
              rotate_left
              ·show Act.put _ (some 59) _ = _
               simp only [Act.put, sI_, s0_, sS_, i64_w, i32_w]
               rfl
              refine pu_ 6 60 (w_ 13 1663) rfl HT_ ?_
              refine ta_ 7 61 (w_ 13 1791) rfl HT_ HW_ hHeld (by rintro w' ⟨s0, s1, s2, s3, s4, s5, s6, s7⟩; go_simp; with_reducible rfl) ?_
              refine one_ (i := 8) (N := some 62) (w_ 13 2047) rfl rfl (one_of HT_.out (by kernel_rfl)) (by decide) (fun K hK => ?_)
              refine goes_ Try.func26 (by kernel_rfl) rfl #[.agg #[.int .i64 ((rd_T46 l0_1 t569).f0), .int .i64 ((rd_T46 l0_1 t569).f1), .slice A570_2 ((rd_T46 l0_1 t569).f2).length c570_2]] (by rfl) rfl rfl (by (try simp only [List.map_toArray, List.map_cons, List.map_nil]); first | done | rfl | (simp only [List.length_drop, List.length_take]; rfl)) ?_
              with_reducible refine (cohousingref23_Ranking.calls k2 ((rd_T46 l0_1 t569).f0) ((rd_T46 l0_1 t569).f1) _ _ ((rd_T46 l0_1 t569).f2) t571 _ ?side1 ?side2 A20.out).mono ?_
              (case side1 => exact cc_ ((Kd.C_below HR570_2.out HB.out)))
              (case side2 => exact HC570_2.out)
              rintro e w37 ⟨v572, rfl, ho0, hb⟩
              refine ⟨_, rfl, ?_⟩
              have n0_ := Aside0.mk (Kd.R_lower ho0 (below_size (by repeat (first | (with_reducible first | exact HB.out | apply below_alloc | apply pw_below_drewN | apply below_drew1 | refine below_set ?_ GE562.out | refine below_set ?_ GE568.out) | exact HB.out))))
              have n1_ := Aside0.mk (blk_below (g := gb562) (o := .cells #[.slice A0_0 l0_0.length c0_0, .slice (some ad570) l0_1.length c0_1] 25 (0, 0)) (kk_ BK562) hb)
              have n2_ := Aside0.mk (blk_below (g := gb568) (o := .cells #[.int .i64 ((rd_T51 ((rd_T49 l1 x10_1).f1) x11_2).f0), .int .i64 ((rd_T51 ((rd_T49 l1 x10_1).f1) x11_2).f1), .int .i64 ((rd_T51 ((rd_T49 l1 x10_1).f1) x11_2).f2)] 51 (0, 0)) (kk_ BK568) hb)
              have n3_ := Aside0.mk (below_step (by repeat (first | (with_reducible first | exact HB.out | apply below_alloc | apply pw_below_drewN | apply below_drew1 | refine below_set ?_ GE562.out | refine below_set ?_ GE568.out) | exact HB.out)) hb)
              clear BK562
              clear BK568
              clear HB
              have HO573 := n0_
              have BK562 := n1_
              have BK568 := n2_
              have HB := n3_
              clear n0_ n1_ n2_ n3_
              (try clear hb)
              (try clear hb2)
              (try clear hk)
              (try clear hi)
              (try clear ho0)
              obtain ⟨Ao38, co38, eo38⟩ := Kd.R_slice HO573.out
              (first | subst eo38 | (injection eo38 with f1_ f2_ f3_; have f4_ := f1_.symm; have f5_ := f3_.symm; clear f1_ f2_ f3_; subst f4_; subst f5_))
              refine hK.out _ _ ⟨(blk_cell BK562.out 0).trans rfl, (blk_cell BK562.out 1).trans rfl, (blk_cell BK568.out 0).trans rfl, (blk_cell BK568.out 1).trans rfl, (blk_cell BK568.out 2).trans rfl, ((HB.out.cell (World.block_lt_of_cell? w _ hw570_0)).trans hw570_0), ((HB.out.cell (World.block_lt_of_cell? w _ hw570_1)).trans hw570_1), ((HB.out.cell (World.block_lt_of_cell? w _ hw570_2)).trans hw570_2)⟩ (fun hHeld => ?_)
              clear hK K
              refine norm_ (a' := ?_) ?_ ?_
              rotate_left
              ·show Act.put _ (some 62) _ = _
               simp only [Act.put, sI_, s0_, sS_, i64_w, i32_w]
               rfl
              refine one_ (i := 11) (N := some 65) (w_ 13 4095) rfl rfl (one_of HT_.out (by kernel_rfl)) (by decide) (fun K hK => ?_)
              refine goes_ Try.func24 (by kernel_rfl) rfl #[.slice Ao38 t571.length co38, .int .i64 ((rd_T51 ((rd_T49 l1 x10_1).f1) x11_2).f2)] (by rfl) rfl rfl (by (try simp only [List.map_toArray, List.map_cons, List.map_nil]); first | done | rfl | (simp only [List.length_drop, List.length_take]; rfl)) ?_
              with_reducible refine (cohousingref23_In.calls k2 _ _ t571 ((rd_T51 ((rd_T49 l1 x10_1).f1) x11_2).f2) t574 _ ?side1 ?side2 A21.out).mono ?_
              (case side1 => exact cc_ ((Kd.R_reads' HO573.out).2.2))
              (case side2 => exact (Kd.R_reads' HO573.out).2.1)
              rintro e w' ⟨rfl, ⟨nd, rfl⟩⟩
              refine ⟨_, rfl, ?_⟩
              refine hK.out _ _ ⟨(blk_cell BK562.out 0).trans rfl, (blk_cell BK562.out 1).trans rfl, (blk_cell BK568.out 0).trans rfl, (blk_cell BK568.out 1).trans rfl, (blk_cell BK568.out 2).trans rfl, ((HB.out.cell (World.block_lt_of_cell? w _ hw570_0)).trans hw570_0), ((HB.out.cell (World.block_lt_of_cell? w _ hw570_1)).trans hw570_1), ((HB.out.cell (World.block_lt_of_cell? w _ hw570_2)).trans hw570_2)⟩ (fun hHeld => ?_)
              clear hK K
              refine norm_ (a' := ?_) ?_ ?_
              rotate_left
              ·show Act.put _ (some 65) _ = _
               simp only [Act.put, sI_, s0_, sS_, i64_w, i32_w]
               rfl
              refine pu_ 12 66 (w_ 13 8191) rfl HT_ ?_
              refine done_ (done_of HT_.out (by kernel_rfl)) ?_
              try go_wp2
              go_roundg k2
              case measure => have := HK1.out; have := HK2.out; omega
              case rel => exact ⟨(wrap64 (x11_2 + 1)), sd_, H', ⟨by have := HK1.out; have := HK2.out; omega⟩, ⟨by (with_reducible repeat (first | refine blk_drewN ?_ _ | refine blk_drew ?_ | refine blk_alloc ?_ _)); exact BK562.out⟩, ⟨by repeat (first | (with_reducible first | exact HB.out | apply below_alloc | apply pw_below_drewN | apply below_drew1 | refine below_set ?_ GE562.out | refine below_set ?_ GE568.out) | exact HB.out)⟩⟩
            ·rw [if_neg c19] at H
             exact absurd H (by simp)
           ·rw [if_neg c18] at H
            exact absurd H (by simp)
          ·rw [if_neg c16] at H
           exact absurd H (by simp)
         ·rw [if_neg c15] at H
          have c15b0 : decide (x11_2 < (((rd_T49 l1 x10_1).f1).length : Int)) = false := decide_eq_false c15
          clear c15
          have H' := Aside0.mk H
          clear H
          have p565 : 0 ≤ (x10_1 : Int) := od_
          have q565 : x10_1 < (l1.length : Int) := od_
          obtain ⟨ad565, A565_1, c565_1, e565, hx565_0, hx565_1, hl565_1, hi565_1⟩ := at_T49 HR1.out x10_1 p565 q565
          cases e565
          replace hx565_0 := (HB.out.cell (World.block_lt_of_cell? w _ hx565_0)).trans hx565_0
          replace hx565_1 := (HB.out.cell (World.block_lt_of_cell? w _ hx565_1)).trans hx565_1
          have HR565_1 := Aside0.mk hi565_1
          have HC565_1 := Aside0.mk hl565_1
          clear hi565_1 hl565_1
          replace p565 := eq_true p565
          replace q565 := eq_true q565
          go_wp2
          go_roundg k2
          case measure => have := HK1.out; have := HK2.out; omega
          case rel => exact ⟨(wrap64 (x10_1 + 1)), sd_, H', ⟨by have := HK1.out; have := HK2.out; omega⟩, ⟨by (with_reducible repeat (first | refine blk_drewN ?_ _ | refine blk_drew ?_ | refine blk_alloc ?_ _)); exact BK562.out⟩, ⟨by repeat (first | (with_reducible first | exact HB.out | apply below_alloc | apply pw_below_drewN | apply below_drew1 | refine below_set ?_ GE562.out) | exact HB.out)⟩⟩
        ·rw [if_neg c14] at H
         exact absurd H (by simp)
       ·rw [if_neg c13] at H
        exact absurd H (by simp)
    ·rw [if_neg c12] at H
     have c12b0 : decide (x10_1 < (l1.length : Int)) = false := decide_eq_false c12
     clear c12
     replace H := Option.bind_eq_some_iff.mp H
     obtain ⟨t575, A390, H⟩ := H
     replace H : ((chain_Run.f l0_0 l0_1 l1 t575 l3).bind fun bt576 => ((chain_Next.f l0_0 l0_1 bt576.1 ([] : List Int)).bind fun bt583 => (if bt576.2.2 = 0 then (if bt583.2.2 = 0 then (cohousinglaw26_ChainNotWorse.j2 k1 t563 ((bt583.2.1.length : Int) != (l0_1.length : Int)) l0_0 l0_1 bt583.1 bt583.2.1) else (cohousinglaw26_ChainNotWorse.j2 k1 t563 true l0_0 l0_1 bt583.1 bt583.2.1)) else (cohousinglaw26_ChainNotWorse.j2 k1 t563 true l0_0 l0_1 bt583.1 bt583.2.1)))) = some true := H
     have A39 := Aside0.mk A390
     clear A390
     replace H := Option.bind_eq_some_iff.mp H
     obtain ⟨⟨t576, t579, t582⟩, A400, H⟩ := H
     replace H : ((chain_Next.f l0_0 l0_1 t576 ([] : List Int)).bind fun bt583 => (if t582 = 0 then (if bt583.2.2 = 0 then (cohousinglaw26_ChainNotWorse.j2 k1 t563 ((bt583.2.1.length : Int) != (l0_1.length : Int)) l0_0 l0_1 bt583.1 bt583.2.1) else (cohousinglaw26_ChainNotWorse.j2 k1 t563 true l0_0 l0_1 bt583.1 bt583.2.1)) else (cohousinglaw26_ChainNotWorse.j2 k1 t563 true l0_0 l0_1 bt583.1 bt583.2.1))) = some true := H
     have A40 := Aside0.mk A400
     clear A400
     replace H := Option.bind_eq_some_iff.mp H
     obtain ⟨⟨t583, t586, t589⟩, A410, H⟩ := H
     replace H : (if t582 = 0 then (if t589 = 0 then (cohousinglaw26_ChainNotWorse.j2 k1 t563 ((t586.length : Int) != (l0_1.length : Int)) l0_0 l0_1 t583 t586) else (cohousinglaw26_ChainNotWorse.j2 k1 t563 true l0_0 l0_1 t583 t586)) else (cohousinglaw26_ChainNotWorse.j2 k1 t563 true l0_0 l0_1 t583 t586)) = some true := H
     have A41 := Aside0.mk A410
     clear A410
     have HC42 := Aside0.mk H
     clear H
     try go_wp2
     have n0_ := Aside0.mk (blk_drew BK562.out)
     have n1_ := Aside0.mk (below_drew1 HB.out)
     clear BK562
     clear HB
     have BK562 := n0_
     have HB := n1_
     clear n0_ n1_
     refine start_ (n := 13) (S := fun w' => w'.cell? ⟨gb562, 0, none⟩ = some (.slice A0_0 l0_0.length c0_0) ∧ w'.cell? ⟨gb562, 1, none⟩ = some (.slice A0_1 l0_1.length c0_1)) (ds := []) #[n_, n_, n_, n_, n_, n_, n_, n_, n_, n_, n_, n_, n_] (by kernel_rfl) rfl rfl ⟨(blk_cell BK562.out 0).trans rfl, (blk_cell BK562.out 1).trans rfl⟩ (fun hHeld => ?_); refine with_tabW cohousinglaw26_ChainNotWorse.tab13 cohousinglaw26_ChainNotWorse.bits13 (fun HT_ HW_ => ?_)
     generalize wr.drew = w43 at BK562 HB hHeld ⊢
     refine pu_ 1 70 (w_ 13 2) rfl HT_ ?_
     refine pu_ 2 71 (w_ 13 6) rfl HT_ ?_
     refine pu_ 4 73 (w_ 13 22) rfl HT_ ?_
     refine ta_ 0 69 (w_ 13 23) rfl HT_ HW_ hHeld (by rintro w' ⟨s0, s1⟩; go_simp; with_reducible rfl) ?_
     refine one_ (i := 3) (N := some 72) (w_ 13 31) rfl rfl (one_of HT_.out (by kernel_rfl)) (by decide) (fun K hK => ?_)
     refine goes_ Try.func21 (by kernel_rfl) rfl #[.int .u16 a2] (by rfl) rfl rfl (by (try simp only [List.map_toArray, List.map_cons, List.map_nil]); first | done | rfl | (simp only [List.length_drop, List.length_take]; rfl)) ?_
     with_reducible refine (cohousinglaw26_on.calls a2 t575 _ A39.out).mono ?_
     rintro e w' ⟨rfl, ⟨nd, rfl⟩⟩
     refine ⟨_, rfl, ?_⟩
     refine hK.out _ _ ⟨(blk_cell BK562.out 0).trans rfl, (blk_cell BK562.out 1).trans rfl⟩ (fun hHeld => ?_)
     clear hK K
     refine norm_ (a' := ?_) ?_ ?_
     rotate_left
     ·show Act.put _ (some 72) _ = _
      simp only [Act.put, sI_, s0_, sS_, i64_w, i32_w]
      rfl
     refine one_ (i := 5) (N := some 74) (w_ 13 63) rfl rfl (one_of HT_.out (by kernel_rfl)) (by decide) (fun K hK => ?_)
     refine goes_ Try.func13 (by kernel_rfl) rfl #[.agg #[.slice A0_0 l0_0.length c0_0, .slice A0_1 l0_1.length c0_1], .slice A1 l1.length c1, .int .i64 t575, .slice A3 l3.length c3] (by rfl) rfl rfl (by (try simp only [List.map_toArray, List.map_cons, List.map_nil]); first | done | rfl | (simp only [List.length_drop, List.length_take]; rfl)) ?_
     with_reducible refine (chain_Run.calls _ _ l0_0 _ _ l0_1 _ _ l1 t575 _ _ l3 t576 t579 t582 _ ?side1 ?side2 ?side3 ?side4 ?side5 ?side6 ?side7 ?side8 A40.out).mono ?_
     (case side1 => exact cc_ ((Kd.C_below HR0_0.out (bs_ HB GE562.out))))
     (case side2 => exact HC0_0.out)
     (case side3 => exact cc_ ((Kd.C_below HR0_1.out (bs_ HB GE562.out))))
     (case side4 => exact HC0_1.out)
     (case side5 => exact cc_ ((Kd.C_below HR1.out (bs_ HB GE562.out))))
     (case side6 => exact HC1.out)
     (case side7 => exact cc_ ((Kd.C_below HR3.out (bs_ HB GE562.out))))
     (case side8 => exact HC3.out)
     rintro e w44 ⟨v577, v580, rfl, ho0, ho1, hb⟩
     refine ⟨_, rfl, ?_⟩
     have n0_ := Aside0.mk (Kd.R_lower ho0 (below_size (bs_ HB GE562.out)))
     have n1_ := Aside0.mk (Kd.R_lower ho1 (below_size (bs_ HB GE562.out)))
     have n2_ := Aside0.mk (blk_below (g := gb562) (o := .cells #[.slice A0_0 l0_0.length c0_0, .slice A0_1 l0_1.length c0_1] 25 (0, 0)) (kk_ BK562) hb)
     have n3_ := Aside0.mk (below_step (bs_ HB GE562.out) hb)
     clear BK562
     clear HB
     have HO578 := n0_
     have HO581 := n1_
     have BK562 := n2_
     have HB := n3_
     clear n0_ n1_ n2_ n3_
     (try clear hb)
     (try clear hb2)
     (try clear hk)
     (try clear hi)
     (try clear ho0)
     (try clear ho1)
     refine hK.out _ _ ⟨(blk_cell BK562.out 0).trans rfl, (blk_cell BK562.out 1).trans rfl⟩ (fun hHeld => ?_)
     clear hK K
     refine norm_ (a' := ?_) ?_ ?_
     rotate_left
     ·show Act.put _ (some 74) _ = _
      simp only [Act.put, sI_, s0_, sS_, i64_w, i32_w]
      rfl
     refine pu_ 6 68 (w_ 13 127) rfl HT_ ?_
     refine pu_ 7 75 (w_ 13 255) rfl HT_ ?_
     refine pu_ 8 76 (w_ 13 511) rfl HT_ ?_
     refine pu_ 9 77 (w_ 13 1023) rfl HT_ ?_
     refine pu_ 10 13 (w_ 13 2047) rfl HT_ ?_
     refine pu_ 11 14 (w_ 13 4095) rfl HT_ ?_
     refine pu_ 12 15 (w_ 13 8191) rfl HT_ ?_
     refine done_ (done_of HT_.out (by kernel_rfl)) ?_
     have hcz45_0 : w44.cell? ⟨gb562, 0, none⟩ = some (.slice A0_0 l0_0.length c0_0) := (blk_cell BK562.out 0).trans rfl
     have hcz45_1 : w44.cell? ⟨gb562, 1, none⟩ = some (.slice A0_1 l0_1.length c0_1) := (blk_cell BK562.out 1).trans rfl
     have hfz45_0 := blk_frozen BK562.out 0
     have hfz45_1 := blk_frozen BK562.out 1
     obtain ⟨Ao46, co46, eo46⟩ := Kd.R_slice HO578.out
     subst eo46
     go_upto_region 15 with (first | ((with_reducible refine gate_callee (f := 15) rfl ?_); refine gl_ (some 81) Try.func15 #[.agg #[.slice A0_0 l0_0.length c0_0, .slice A0_1 l0_1.length c0_1], .slice Ao46 t576.length co46, .slice none 0 0] ?_; (refine (chain_Next.calls _ _ l0_0 _ _ l0_1 _ _ t576 _ _ ([] : List Int) t583 t586 t589 _ ?side1 ?side2 ?side3 ?side4 ?side5 ?side6 ?side7 ?side8 A41.out).mono ?_); (case side1 => exact cc_ ((Kd.C_below HR0_0.out HB.out))); (case side2 => exact HC0_0.out); (case side3 => exact cc_ ((Kd.C_below HR0_1.out HB.out))); (case side4 => exact HC0_1.out); (case side5 => exact cc_ ((Kd.R_reads' HO578.out).2.2)); (case side6 => exact (Kd.R_reads' HO578.out).2.1); (case side7 => exact Kd.C_nil _ _); (case side8 => exact Nat.le_refl _); rintro e w47 ⟨v584, v587, rfl, ho0, ho1, hb⟩; refine ⟨_, rfl, ?_⟩; have n0_ := Aside0.mk (Kd.R_below (rr_ HO578) hb); have n1_ := Aside0.mk (Kd.R_below (rr_ HO581) hb); have n2_ := Aside0.mk (Kd.R_lower ho0 (below_size (bs_ HB GE562.out))); have n3_ := Aside0.mk (Kd.S_lower (Kd.S_new' ho1 (Kd.R_lt (rr_ HO581))) (below_size (bs_ HB GE562.out))); have n4_ := Aside0.mk (blk_below (g := gb562) (o := .cells #[.slice A0_0 l0_0.length c0_0, .slice A0_1 l0_1.length c0_1] 25 (0, 0)) (kk_ BK562) hb); have n5_ := Aside0.mk (below_step (bs_ HB GE562.out) hb); clear HO578; clear HO581; clear BK562; clear HB; have HO578 := n0_; have HO581 := n1_; have HO585 := n2_; have HO588 := n3_; have BK562 := n4_; have HB := n5_; clear n0_ n1_ n2_ n3_ n4_ n5_; (try clear hb); (try clear hb2); (try clear hk); (try clear hi); (try clear ho0); (try clear ho1)) | ((with_reducible refine gate_dst (N := 16) rfl ?_); (try (refine gate_guard (by rfl) ?_; dsimp only)); refine box_event ?hg (N := 16) ?hd (cs := #[.slice none 0 0, .slice none 0 0]) (t := 25) ?hr ?_; (case hd => rfl); (case hg => rfl); (case hr => first | (go_simp; done) | (go_simp; rfl)); intro gb590 hg w48 hbox hb; have n0_ := Aside0.mk (Kd.R_below (rr_ HO578) hb); have n1_ := Aside0.mk (Kd.R_below (rr_ HO581) hb); have n2_ := Aside0.mk (Kd.R_below (rr_ HO585) hb); have n3_ := Aside0.mk (Kd.S_below (by (with_reducible repeat (first | apply Kd.S_alloc | apply Kd.S_drewN | apply Kd.S_drew)); exact HO588.out) hb); have n4_ := Aside0.mk (blk_below (g := gb562) (o := .cells #[.slice A0_0 l0_0.length c0_0, .slice A0_1 l0_1.length c0_1] 25 (0, 0)) (kk_ BK562) hb); have n5_ := Aside0.mk (below_step (bs_ HB GE562.out) hb); have n6_ := Aside0.mk (hbox); have n7_ := Aside0.mk ((by rw [hg]; exact (below_size (bs_ HB GE562.out)) : w.heap.size ≤ gb590)); have n8_ := Aside0.mk ((by rw [hg]; exact (below_size (bs_ HB GE562.out)) : w.heap.size ≤ gb590)); have n9_ := Aside0.mk ((by rw [hg]; exact Nat.ne_of_lt (blk_lt (g := gb562) (o := .cells #[.slice A0_0 l0_0.length c0_0, .slice A0_1 l0_1.length c0_1] 25 (0, 0)) (kk_ BK562)) : gb562 ≠ gb590)); have n10_ := Aside0.mk ((by rw [hg]; exact Nat.ne_of_gt (blk_lt (g := gb562) (o := .cells #[.slice A0_0 l0_0.length c0_0, .slice A0_1 l0_1.length c0_1] 25 (0, 0)) (kk_ BK562)) : gb590 ≠ gb562)); clear HO578; clear HO581; clear HO585; clear HO588; clear BK562; clear HB; have HO578 := n0_; have HO581 := n1_; have HO585 := n2_; have HO588 := n3_; have BK562 := n4_; have HB := n5_; have BK590 := n6_; have GW590 := n7_; have GE590 := n8_; have NB562_590 := n9_; have NB590_562 := n10_; clear n0_ n1_ n2_ n3_ n4_ n5_ n6_ n7_ n8_ n9_ n10_; clear hb hbox hg; obtain ⟨Ao49, co49, eo49⟩ := Kd.R_slice HO585.out; subst eo49; have hnb50 := NB590_562.out; have hnc50 := NB562_590.out; have hcz51_0 : w48.cell? ⟨gb590, 0, none⟩ = some (.slice none 0 0) := (blk_cell BK590.out 0).trans rfl; have hcz51_1 : w48.cell? ⟨gb590, 1, none⟩ = some (.slice none 0 0) := (blk_cell BK590.out 1).trans rfl; have hfz51_0 := blk_frozen BK590.out 0; have hfz51_1 := blk_frozen BK590.out 1; obtain ⟨Ao52, co52, eo52⟩ := Kd.S_slice HO588.out; subst eo52))
     (try simp only [Act.put, sI_, s0_, sS_])
     go_cut [98] (fun v98 wc => ∃ (kq : Nat) (x98_41 : Bool), v98 = .bool x98_41 ∧ Aside0 (cohousinglaw26_ChainNotWorse.j2 kq t563 x98_41 l0_0 l0_1 t583 t586 = some true) ∧ Aside0 (kq ≤ k1) ∧ Aside0 (Kd.R k84 84 wc w.heap.size (fun _ => True) (.slice Ao49 t583.length co49) t583) ∧ Aside0 (Kd.S k46 46 wc w.heap.size (fun _ => True) (.slice Ao52 t586.length co52) t586) ∧ Aside0 (wc.heap[gb562]? = some (.cells #[(.slice A0_0 l0_0.length c0_0), (.slice A0_1 l0_1.length c0_1)] 25 (0, 0))) ∧ Aside0 (wc.heap[gb590]? = some (.cells #[(.slice Ao49 t583.length co49), (.slice Ao52 t586.length co52)] 25 (0, 0))) ∧ Aside0 (Below w.heap.size w wc))
     case first =>
      have H := HC42.out
      clear HC42
      by_cases c53 : t582 = 0
      ·rw [if_pos c53] at H
       have c53b0 : (t582 == 0) = true := beq_iff_eq.mpr c53
       have c53b1 : (t582 != 0) = false := bne_eq_false_iff_eq.mpr c53
       clear c53
       (first | rw [c53b0] | (simp only [i64_w, i32_w]; rw [c53b0]) | skip)
       by_cases c54 : t589 = 0
       ·rw [if_pos c54] at H
        have c54b0 : (t589 == 0) = true := beq_iff_eq.mpr c54
        have c54b1 : (t589 != 0) = false := bne_eq_false_iff_eq.mpr c54
        clear c54
        have H' := Aside0.mk H
        clear H
        have hnb55 := NB590_562.out
        have hnc55 := NB562_590.out
        have hcz56_0 : w48.cell? ⟨gb590, 0, none⟩ = some (.slice none 0 0) := (blk_cell BK590.out 0).trans rfl
        have hcz56_1 : w48.cell? ⟨gb590, 1, none⟩ = some (.slice none 0 0) := (blk_cell BK590.out 1).trans rfl
        have hfz56_0 := blk_frozen BK590.out 0
        have hfz56_1 := blk_frozen BK590.out 1
        have hcz57_0 : w48.cell? ⟨gb562, 0, none⟩ = some (.slice A0_0 l0_0.length c0_0) := (blk_cell BK562.out 0).trans rfl
        have hcz57_1 : w48.cell? ⟨gb562, 1, none⟩ = some (.slice A0_1 l0_1.length c0_1) := (blk_cell BK562.out 1).trans rfl
        have hfz57_0 := blk_frozen BK562.out 0
        have hfz57_1 := blk_frozen BK562.out 1
        go_wp2
        go_meet
        case rel => exact ⟨_, (((t586.length : Int) != (l0_1.length : Int))), sd_, H', ⟨by have := HK1.out; first | omega | exact Nat.le_refl _⟩, ⟨by (with_reducible repeat (first | apply Kd.R_alloc | apply Kd.R_drewN | apply Kd.R_drew)); exact Kd.R_mono (Kd.R_far (p := ⟨gb590, 1, none⟩) (Kd.R_far (p := ⟨gb590, 0, none⟩) (Kd.R_types HO585.out BK590.out (by decide)) (fun _ hk => hk.2) (.slice Ao49 t583.length co49)) (fun _ hk => hk.2) (.slice Ao52 t586.length co52)) (fun _ hk => trivial)⟩, ⟨by (with_reducible repeat (first | apply Kd.S_alloc | apply Kd.S_drewN | apply Kd.S_drew)); exact Kd.S_mono (Kd.S_far (p := ⟨gb590, 1, none⟩) (Kd.S_far (p := ⟨gb590, 0, none⟩) (Kd.S_types HO588.out BK590.out (by decide)) (fun _ hk => hk.2) (.slice Ao49 t583.length co49)) (fun _ hk => hk.2) (.slice Ao52 t586.length co52)) (fun _ hk => trivial)⟩, ⟨by (with_reducible repeat (first | refine blk_drewN ?_ _ | refine blk_drew ?_ | refine blk_alloc ?_ _)); refine blk_far ?_ NB562_590.out _; (with_reducible repeat (first | refine blk_drewN ?_ _ | refine blk_drew ?_ | refine blk_alloc ?_ _)); refine blk_far ?_ NB562_590.out _; (with_reducible repeat (first | refine blk_drewN ?_ _ | refine blk_drew ?_ | refine blk_alloc ?_ _)); exact BK562.out⟩, ⟨by (with_reducible repeat (first | refine blk_drewN ?_ _ | refine blk_drew ?_ | refine blk_alloc ?_ _)); refine blk_put (cs := #[.slice Ao49 t583.length co49, .slice none 0 0]) ?_ 1 _ rfl; (with_reducible repeat (first | refine blk_drewN ?_ _ | refine blk_drew ?_ | refine blk_alloc ?_ _)); refine blk_put (cs := #[.slice none 0 0, .slice none 0 0]) ?_ 0 _ rfl; (with_reducible repeat (first | refine blk_drewN ?_ _ | refine blk_drew ?_ | refine blk_alloc ?_ _)); exact BK590.out⟩, ⟨by repeat (first | (with_reducible first | exact HB.out | apply below_alloc | apply pw_below_drewN | apply below_drew1 | refine below_set ?_ GE562.out | refine below_set ?_ GE590.out) | exact HB.out)⟩⟩
       ·rw [if_neg c54] at H
        have c54b0 : (t589 == 0) = false := beq_eq_false_iff_ne.mpr c54
        have c54b1 : (t589 != 0) = true := bne_iff_ne.mpr c54
        have H' := Aside0.mk H
        clear H
        go_wp2
        go_meet
        case rel => exact ⟨_, (true), sd_, H', ⟨by have := HK1.out; first | omega | exact Nat.le_refl _⟩, ⟨by (with_reducible repeat (first | apply Kd.R_alloc | apply Kd.R_drewN | apply Kd.R_drew)); exact Kd.R_mono (Kd.R_far (p := ⟨gb590, 1, none⟩) (Kd.R_far (p := ⟨gb590, 0, none⟩) (Kd.R_types HO585.out BK590.out (by decide)) (fun _ hk => hk.2) (.slice Ao49 t583.length co49)) (fun _ hk => hk.2) (.slice Ao52 t586.length co52)) (fun _ hk => trivial)⟩, ⟨by (with_reducible repeat (first | apply Kd.S_alloc | apply Kd.S_drewN | apply Kd.S_drew)); exact Kd.S_mono (Kd.S_far (p := ⟨gb590, 1, none⟩) (Kd.S_far (p := ⟨gb590, 0, none⟩) (Kd.S_types HO588.out BK590.out (by decide)) (fun _ hk => hk.2) (.slice Ao49 t583.length co49)) (fun _ hk => hk.2) (.slice Ao52 t586.length co52)) (fun _ hk => trivial)⟩, ⟨by (with_reducible repeat (first | refine blk_drewN ?_ _ | refine blk_drew ?_ | refine blk_alloc ?_ _)); refine blk_far ?_ NB562_590.out _; (with_reducible repeat (first | refine blk_drewN ?_ _ | refine blk_drew ?_ | refine blk_alloc ?_ _)); refine blk_far ?_ NB562_590.out _; (with_reducible repeat (first | refine blk_drewN ?_ _ | refine blk_drew ?_ | refine blk_alloc ?_ _)); exact BK562.out⟩, ⟨by (with_reducible repeat (first | refine blk_drewN ?_ _ | refine blk_drew ?_ | refine blk_alloc ?_ _)); refine blk_put (cs := #[.slice Ao49 t583.length co49, .slice none 0 0]) ?_ 1 _ rfl; (with_reducible repeat (first | refine blk_drewN ?_ _ | refine blk_drew ?_ | refine blk_alloc ?_ _)); refine blk_put (cs := #[.slice none 0 0, .slice none 0 0]) ?_ 0 _ rfl; (with_reducible repeat (first | refine blk_drewN ?_ _ | refine blk_drew ?_ | refine blk_alloc ?_ _)); exact BK590.out⟩, ⟨by repeat (first | (with_reducible first | exact HB.out | apply below_alloc | apply pw_below_drewN | apply below_drew1 | refine below_set ?_ GE562.out | refine below_set ?_ GE590.out) | exact HB.out)⟩⟩
      ·rw [if_neg c53] at H
       have c53b0 : (t582 == 0) = false := beq_eq_false_iff_ne.mpr c53
       have c53b1 : (t582 != 0) = true := bne_iff_ne.mpr c53
       (first | rw [c53b0] | (simp only [i64_w, i32_w]; rw [c53b0]) | skip)
       have H' := Aside0.mk H
       clear H
       go_wp2
       go_meet
       case rel => exact ⟨_, (true), sd_, H', ⟨by have := HK1.out; first | omega | exact Nat.le_refl _⟩, ⟨by (with_reducible repeat (first | apply Kd.R_alloc | apply Kd.R_drewN | apply Kd.R_drew)); exact Kd.R_mono (Kd.R_far (p := ⟨gb590, 1, none⟩) (Kd.R_far (p := ⟨gb590, 0, none⟩) (Kd.R_types HO585.out BK590.out (by decide)) (fun _ hk => hk.2) (.slice Ao49 t583.length co49)) (fun _ hk => hk.2) (.slice Ao52 t586.length co52)) (fun _ hk => trivial)⟩, ⟨by (with_reducible repeat (first | apply Kd.S_alloc | apply Kd.S_drewN | apply Kd.S_drew)); exact Kd.S_mono (Kd.S_far (p := ⟨gb590, 1, none⟩) (Kd.S_far (p := ⟨gb590, 0, none⟩) (Kd.S_types HO588.out BK590.out (by decide)) (fun _ hk => hk.2) (.slice Ao49 t583.length co49)) (fun _ hk => hk.2) (.slice Ao52 t586.length co52)) (fun _ hk => trivial)⟩, ⟨by (with_reducible repeat (first | refine blk_drewN ?_ _ | refine blk_drew ?_ | refine blk_alloc ?_ _)); refine blk_far ?_ NB562_590.out _; (with_reducible repeat (first | refine blk_drewN ?_ _ | refine blk_drew ?_ | refine blk_alloc ?_ _)); refine blk_far ?_ NB562_590.out _; (with_reducible repeat (first | refine blk_drewN ?_ _ | refine blk_drew ?_ | refine blk_alloc ?_ _)); exact BK562.out⟩, ⟨by (with_reducible repeat (first | refine blk_drewN ?_ _ | refine blk_drew ?_ | refine blk_alloc ?_ _)); refine blk_put (cs := #[.slice Ao49 t583.length co49, .slice none 0 0]) ?_ 1 _ rfl; (with_reducible repeat (first | refine blk_drewN ?_ _ | refine blk_drew ?_ | refine blk_alloc ?_ _)); refine blk_put (cs := #[.slice none 0 0, .slice none 0 0]) ?_ 0 _ rfl; (with_reducible repeat (first | refine blk_drewN ?_ _ | refine blk_drew ?_ | refine blk_alloc ?_ _)); exact BK590.out⟩, ⟨by repeat (first | (with_reducible first | exact HB.out | apply below_alloc | apply pw_below_drewN | apply below_drew1 | refine below_set ?_ GE562.out | refine below_set ?_ GE590.out) | exact HB.out)⟩⟩
     case rest =>
      clear HC42
      try clear c1
      try clear c2
      try clear p2
      try clear c3
      try clear c5
      try clear p5
      try clear q5
      try clear hx5
      try clear p6
      try clear c12
      try clear c12b0
      try clear c13
      try clear c14
      try clear c15
      try clear c15b0
      try clear c16
      try clear c18
      try clear c19
      try clear c21
      try clear c22
      try clear c22b0
      try clear c24
      try clear c26
      try clear c27
      try clear c32
      try clear c50
      try clear c53
      try clear c53b0
      try clear c53b1
      try clear c54
      try clear c54b0
      try clear c54b1
      try clear c55
      try clear c56
      try clear p56
      try clear q56
      try clear hx56
      try clear c57
      try clear p57
      try clear q57
      try clear hx57
      try clear hcz33_0
      try clear hcz33_1
      try clear hcz33_2
      try clear hcz45_0
      try clear hcz45_1
      try clear hcz51_0
      try clear hcz51_1
      try clear hcz56_0
      try clear hcz56_1
      try clear hcz57_0
      try clear hcz57_1
      try clear hfz33_0
      try clear hfz33_1
      try clear hfz33_2
      try clear hfz45_0
      try clear hfz45_1
      try clear hfz51_0
      try clear hfz51_1
      try clear hfz56_0
      try clear hfz56_1
      try clear hfz57_0
      try clear hfz57_1
      try clear hx565_0
      try clear hx565_1
      try clear hx566_0
      try clear hx566_1
      try clear hx567_0
      try clear hx567_1
      try clear hx567_2
      try clear hx570_0
      try clear hx570_1
      try clear hx570_2
      try clear p565
      try clear p566
      try clear p567
      try clear p570
      try clear q565
      try clear q566
      try clear q567
      try clear q570
      obtain ⟨kq, x98_41, rfl, HA, HJ41, HO_591000, HO_591001, BK562, BK590, HB⟩ := hcut
      cases kq with
      | zero => exact absurd HA.out (by simp [cohousinglaw26_ChainNotWorse.j2])
      | succ kj41 =>
       have H := HA.out
       clear HA
       simp only [cohousinglaw26_ChainNotWorse.j2] at H
       by_cases c58 : x98_41 = true
       ·subst c58
        have H1 : (some false) = some true := by rw [if_pos rfl] at H; exact H
        clear H
        have H := H1
        clear H1
        exact absurd (Option.some.inj H) (by decide)
       ·replace c58 := Bool.eq_false_iff.mpr c58
        subst c58
        have H1 : (cohousinglaw26_ChainNotWorse.l2 kj41 t563 0 l0_0 l0_1 t583 t586) = some true := by rw [if_neg (show ¬ (false = true) by decide)] at H; exact H
        clear H
        have H := H1
        clear H1
        have H' := Aside0.mk H
        clear H
        go_wp2
        go_loopg [18] kj41 (fun kq v18 w' => ∃ (x18_3 : Int), v18 = .int .i64 x18_3 ∧ Aside0 (cohousinglaw26_ChainNotWorse.l2 kq t563 x18_3 l0_0 l0_1 t583 t586 = some true) ∧ Aside0 (kq ≤ kj41) ∧ Aside0 (Kd.R k84 84 w' w.heap.size (fun _ => True) (.slice Ao49 t583.length co49) t583) ∧ Aside0 (Kd.S k46 46 w' w.heap.size (fun _ => True) (.slice Ao52 t586.length co52) t586) ∧ Aside0 (w'.heap[gb562]? = some (.cells #[(.slice A0_0 l0_0.length c0_0), (.slice A0_1 l0_1.length c0_1)] 25 (0, 0))) ∧ Aside0 (w'.heap[gb590]? = some (.cells #[(.slice Ao49 t583.length co49), (.slice Ao52 t586.length co52)] 25 (0, 0))) ∧ Aside0 (Below w.heap.size w w'))
        case atStart => exact ⟨(0), sd_, H', ⟨Nat.le_refl _⟩, ⟨by (with_reducible repeat (first | apply Kd.R_alloc | apply Kd.R_drewN | apply Kd.R_drew)); exact HO_591000.out⟩, ⟨by (with_reducible repeat (first | apply Kd.S_alloc | apply Kd.S_drewN | apply Kd.S_drew)); exact HO_591001.out⟩, ⟨by (with_reducible repeat (first | refine blk_drewN ?_ _ | refine blk_drew ?_ | refine blk_alloc ?_ _)); exact BK562.out⟩, ⟨by (with_reducible repeat (first | refine blk_drewN ?_ _ | refine blk_drew ?_ | refine blk_alloc ?_ _)); exact BK590.out⟩, ⟨by repeat (first | (with_reducible first | exact HB.out | apply below_alloc | apply pw_below_drewN | apply below_drew1 | refine below_set ?_ GE562.out | refine below_set ?_ GE590.out) | exact HB.out)⟩⟩
        case round =>
         clear H'
         try clear c1
         try clear c2
         try clear p2
         try clear c3
         try clear c5
         try clear p5
         try clear q5
         try clear hx5
         try clear p6
         try clear c12
         try clear c12b0
         try clear c13
         try clear c14
         try clear c15
         try clear c15b0
         try clear c16
         try clear c18
         try clear c19
         try clear c21
         try clear c22
         try clear c22b0
         try clear c24
         try clear c26
         try clear c27
         try clear c32
         try clear c50
         try clear c53
         try clear c53b0
         try clear c53b1
         try clear c54
         try clear c54b0
         try clear c54b1
         try clear c55
         try clear c56
         try clear p56
         try clear q56
         try clear hx56
         try clear c57
         try clear p57
         try clear q57
         try clear hx57
         try clear c58
         try clear hcz33_0
         try clear hcz33_1
         try clear hcz33_2
         try clear hcz45_0
         try clear hcz45_1
         try clear hcz51_0
         try clear hcz51_1
         try clear hcz56_0
         try clear hcz56_1
         try clear hcz57_0
         try clear hcz57_1
         try clear hfz33_0
         try clear hfz33_1
         try clear hfz33_2
         try clear hfz45_0
         try clear hfz45_1
         try clear hfz51_0
         try clear hfz51_1
         try clear hfz56_0
         try clear hfz56_1
         try clear hfz57_0
         try clear hfz57_1
         try clear hx565_0
         try clear hx565_1
         try clear hx566_0
         try clear hx566_1
         try clear hx567_0
         try clear hx567_1
         try clear hx567_2
         try clear hx570_0
         try clear hx570_1
         try clear hx570_2
         try clear p2
         try clear p5
         try clear p56
         try clear p565
         try clear p566
         try clear p567
         try clear p57
         try clear p570
         try clear p6
         try clear q5
         try clear q56
         try clear q565
         try clear q566
         try clear q567
         try clear q57
         try clear q570
         obtain ⟨x18_3, rfl, HA, HK3, HO_591000, HO_591001, BK562, BK590, HB⟩ := hrel
         cases gk with
         | zero => exact absurd HA.out (by simp [cohousinglaw26_ChainNotWorse.l2])
         | succ k3 =>
          have H := HA.out
          clear HA
          simp only [cohousinglaw26_ChainNotWorse.l2] at H
          by_cases c59 : x18_3 < (l0_1.length : Int)
          ·rw [if_pos c59] at H
           have c59b0 : decide (x18_3 < (l0_1.length : Int)) = true := decide_eq_true c59
           clear c59
           by_cases c60 : 0 ≤ x18_3
           ·rw [if_pos c60] at H
            have c60b0 : decide (0 ≤ x18_3) = true := decide_eq_true c60
            clear c60
            by_cases c61 : x18_3 < (t586.length : Int)
            ·rw [if_pos c61] at H
             have c61b0 : decide (x18_3 < (t586.length : Int)) = true := decide_eq_true c61
             clear c61
             replace H := Option.bind_eq_some_iff.mp H
             obtain ⟨⟨t593, t594⟩, A620, H⟩ := H
             replace H : ((market_Rank.f ((rd_T46 l0_1 x18_3).f0) ((rd_T46 l0_1 x18_3).f1) ((rd_T46 l0_1 x18_3).f2) ((rd_T46 l0_1 x18_3).f1)).bind fun bt597 => (if t594 = 0 then (if bt597.2 = 0 then (if t593 > bt597.1 then (some false) else (cohousinglaw26_ChainNotWorse.l2 k3 t563 (wrap64 (x18_3 + 1)) l0_0 l0_1 t583 t586)) else (some false)) else (some false))) = some true := H
             have A62 := Aside0.mk A620
             clear A620
             replace H := Option.bind_eq_some_iff.mp H
             obtain ⟨⟨t597, t598⟩, A630, H⟩ := H
             replace H : (if t594 = 0 then (if t598 = 0 then (if t593 > t597 then (some false) else (cohousinglaw26_ChainNotWorse.l2 k3 t563 (wrap64 (x18_3 + 1)) l0_0 l0_1 t583 t586)) else (some false)) else (some false)) = some true := H
             have A63 := Aside0.mk A630
             clear A630
             by_cases c64 : t594 = 0
             ·rw [if_pos c64] at H
              have c64b0 : (t594 == 0) = true := beq_iff_eq.mpr c64
              have c64b1 : (t594 != 0) = false := bne_eq_false_iff_eq.mpr c64
              clear c64
              by_cases c65 : t598 = 0
              ·rw [if_pos c65] at H
               have c65b0 : (t598 == 0) = true := beq_iff_eq.mpr c65
               have c65b1 : (t598 != 0) = false := bne_eq_false_iff_eq.mpr c65
               clear c65
               by_cases c66 : t593 > t597
               ·rw [if_pos c66] at H
                have c66b0 : decide (t597 < t593) = true := decide_eq_true c66
                clear c66
                exact absurd (Option.some.inj H) (by decide)
               ·rw [if_neg c66] at H
                have c66b0 : decide (t597 < t593) = false := decide_eq_false c66
                clear c66
                have H' := Aside0.mk H
                clear H
                have hnb73 := NB562_590.out
                have hnc73 := NB590_562.out
                have hcz74_0 : wr.cell? ⟨gb562, 0, none⟩ = some (.slice A0_0 l0_0.length c0_0) := (blk_cell BK562.out 0).trans rfl
                have hcz74_1 : wr.cell? ⟨gb562, 1, none⟩ = some (.slice A0_1 l0_1.length c0_1) := (blk_cell BK562.out 1).trans rfl
                have hfz74_0 := blk_frozen BK562.out 0
                have hfz74_1 := blk_frozen BK562.out 1
                try go_wp2
                have n0_ := Aside0.mk (Kd.R_drew HO_591000.out)
                have n1_ := Aside0.mk (Kd.S_drew HO_591001.out)
                have n2_ := Aside0.mk (blk_drew BK562.out)
                have n3_ := Aside0.mk (blk_drew BK590.out)
                have n4_ := Aside0.mk (below_drew1 HB.out)
                clear HO_591000
                clear HO_591001
                clear BK562
                clear BK590
                clear HB
                have HO_591000 := n0_
                have HO_591001 := n1_
                have BK562 := n2_
                have BK590 := n3_
                have HB := n4_
                clear n0_ n1_ n2_ n3_ n4_
                have p591 : 0 ≤ (x18_3 : Int) := od_
                have q591 : x18_3 < (l0_1.length : Int) := od_
                obtain ⟨ad591, A591_2, c591_2, e591, hx591_0, hx591_1, hx591_2, hl591_2, hi591_2⟩ := at_T46 HR0_1.out x18_3 p591 q591
                have hw591_2 := hx591_2
                have hw591_1 := hx591_1
                have hw591_0 := hx591_0
                cases e591
                replace hx591_0 := (HB.out.cell (World.block_lt_of_cell? w _ hx591_0)).trans hx591_0
                replace hx591_1 := (HB.out.cell (World.block_lt_of_cell? w _ hx591_1)).trans hx591_1
                replace hx591_2 := (HB.out.cell (World.block_lt_of_cell? w _ hx591_2)).trans hx591_2
                have HR591_2 := Aside0.mk hi591_2
                have HC591_2 := Aside0.mk hl591_2
                clear hi591_2 hl591_2
                replace p591 := eq_true p591
                replace q591 := eq_true q591
                have p592 : 0 ≤ (x18_3 : Int) := od_
                have q592 : x18_3 < (t586.length : Int) := od_
                obtain ⟨ad592, A592_2, c592_2, e592, hx592_0, hx592_1, hx592_2, hl592_2, hi592_2⟩ := at_T46 (Kd.S_reads' HO_591001.out).2.2 x18_3 p592 q592
                cases e592
                obtain ⟨ce592, hce592, hMe592, hcc592⟩ := Kd.S_get HO_591001.out z46 x18_3 p592 (by first | exact q592 | exact od_ | (have e_ := (Kd.S_reads' HO_591001.out).1; omega))
                obtain ⟨ve592_2, rfl, ge592_2⟩ := k46_openM hMe592
                have hv592_2 := hcc592 2 _ rfl
                rw [add_field _ _ 2 (by omega)] at hv592_2
                replace hv592_2 := Option.some.inj (hv592_2.symm.trans hx592_2)
                rw [hv592_2] at ge592_2
                have HL592_2 := Aside0.mk (show Kd.R (Kd.int .i64) 3 _ _ _ _ ((rd_T46 t586 x18_3).f2) from ge592_2)
                clear hv592_2 ge592_2
                clear hcc592 hce592
                have HR592_2 := Aside0.mk hi592_2
                have HC592_2 := Aside0.mk hl592_2
                clear hi592_2 hl592_2
                replace p592 := eq_true p592
                replace q592 := eq_true q592
                refine start_ (n := 17) (S := fun w' => w'.cell? ⟨gb562, 0, none⟩ = some (.slice A0_0 l0_0.length c0_0) ∧ w'.cell? ⟨gb562, 1, none⟩ = some (.slice (some ad591) l0_1.length c0_1) ∧ w'.cell? ⟨gb590, 0, none⟩ = some (.slice Ao49 t583.length co49) ∧ w'.cell? ⟨gb590, 1, none⟩ = some (.slice (some ad592) t586.length co52) ∧ w'.cell? (ad591.add ((x18_3).toNat * 3)) = some (.int .i64 ((rd_T46 l0_1 x18_3).f0)) ∧ w'.cell? ⟨(ad591.add ((x18_3).toNat * 3)).block, (ad591.add ((x18_3).toNat * 3)).off + 1, none⟩ = some (.int .i64 ((rd_T46 l0_1 x18_3).f1)) ∧ w'.cell? ⟨(ad591.add ((x18_3).toNat * 3)).block, (ad591.add ((x18_3).toNat * 3)).off + 2, none⟩ = some (.slice A591_2 ((rd_T46 l0_1 x18_3).f2).length c591_2) ∧ w'.cell? (ad592.add ((x18_3).toNat * 3)) = some (.int .i64 ((rd_T46 t586 x18_3).f0)) ∧ w'.cell? ⟨(ad592.add ((x18_3).toNat * 3)).block, (ad592.add ((x18_3).toNat * 3)).off + 1, none⟩ = some (.int .i64 ((rd_T46 t586 x18_3).f1)) ∧ w'.cell? ⟨(ad592.add ((x18_3).toNat * 3)).block, (ad592.add ((x18_3).toNat * 3)).off + 2, none⟩ = some (.slice A592_2 ((rd_T46 t586 x18_3).f2).length c592_2)) (ds := []) #[n_, n_, n_, n_, n_, n_, n_, n_, n_, n_, n_, n_, n_, n_, n_, n_, n_] (by kernel_rfl) rfl rfl ⟨(blk_cell BK562.out 0).trans rfl, (blk_cell BK562.out 1).trans rfl, (blk_cell BK590.out 0).trans rfl, (blk_cell BK590.out 1).trans rfl, ((HB.out.cell (World.block_lt_of_cell? w _ hw591_0)).trans hw591_0), ((HB.out.cell (World.block_lt_of_cell? w _ hw591_1)).trans hw591_1), ((HB.out.cell (World.block_lt_of_cell? w _ hw591_2)).trans hw591_2), hx592_0, hx592_1, hx592_2⟩ (fun hHeld => ?_); refine with_tabW cohousinglaw26_ChainNotWorse.tab20 cohousinglaw26_ChainNotWorse.bits20 (fun HT_ HW_ => ?_)
                generalize wr.drew = w75 at HO_591000 HO_591001 BK562 BK590 HB HL592_2 HR591_2 HR592_2 hx591_0 hx591_1 hx591_2 hx592_0 hx592_1 hx592_2 hHeld ⊢
                refine pu_ 0 107 (w_ 17 1) rfl HT_ ?_
                refine pu_ 2 109 (w_ 17 5) rfl HT_ ?_
                refine pu_ 5 112 (w_ 17 37) rfl HT_ ?_
                refine pu_ 7 114 (w_ 17 165) rfl HT_ ?_
                refine ta_ 1 108 (w_ 17 167) rfl HT_ HW_ hHeld (by rintro w' ⟨s0, s1, s2, s3, s4, s5, s6, s7, s8, s9⟩; go_simp; with_reducible rfl) ?_
                refine pu_ 3 110 (w_ 17 175) rfl HT_ ?_
                refine ta_ 4 111 (w_ 17 191) rfl HT_ HW_ hHeld (by rintro w' ⟨s0, s1, s2, s3, s4, s5, s6, s7, s8, s9⟩; go_simp; with_reducible rfl) ?_
                refine ta_ 6 113 (w_ 17 255) rfl HT_ HW_ hHeld (by rintro w' ⟨s0, s1, s2, s3, s4, s5, s6, s7, s8, s9⟩; go_simp; with_reducible rfl) ?_
                refine pu_ 8 115 (w_ 17 511) rfl HT_ ?_
                refine pu_ 9 116 (w_ 17 1023) rfl HT_ ?_
                refine ta_ 10 117 (w_ 17 2047) rfl HT_ HW_ hHeld (by rintro w' ⟨s0, s1, s2, s3, s4, s5, s6, s7, s8, s9⟩; go_simp; with_reducible rfl) ?_
                refine one_ (i := 11) (N := some 118) (w_ 17 4095) rfl rfl (one_of HT_.out (by kernel_rfl)) (by decide) (fun K hK => ?_)
                refine goes_ Try.func28 (by kernel_rfl) rfl #[.agg #[.int .i64 ((rd_T46 l0_1 x18_3).f0), .int .i64 ((rd_T46 l0_1 x18_3).f1), .slice A591_2 ((rd_T46 l0_1 x18_3).f2).length c591_2], .int .i64 ((rd_T46 t586 x18_3).f1)] (by rfl) rfl rfl (by (try simp only [List.map_toArray, List.map_cons, List.map_nil]); first | done | rfl | (simp only [List.length_drop, List.length_take]; rfl)) ?_
                with_reducible refine (market_Rank.calls ((rd_T46 l0_1 x18_3).f0) ((rd_T46 l0_1 x18_3).f1) _ _ ((rd_T46 l0_1 x18_3).f2) ((rd_T46 t586 x18_3).f1) t593 t594 _ ?side1 ?side2 A62.out).mono ?_
                (case side1 => exact cc_ ((Kd.C_below HR591_2.out HB.out)))
                (case side2 => exact HC591_2.out)
                rintro e w76 ⟨rfl, hb⟩
                have HS7_ := (hb.cell (World.block_lt_of_cell? _ _ (hHeld.2.2.2.2.2.2.2.1))).trans (hHeld.2.2.2.2.2.2.2.1)
                have HS8_ := (hb.cell (World.block_lt_of_cell? _ _ (hHeld.2.2.2.2.2.2.2.2.1))).trans (hHeld.2.2.2.2.2.2.2.2.1)
                have HS9_ := (hb.cell (World.block_lt_of_cell? _ _ (hHeld.2.2.2.2.2.2.2.2.2))).trans (hHeld.2.2.2.2.2.2.2.2.2)
                refine ⟨_, rfl, ?_⟩
                have n0_ := Aside0.mk (Kd.R_below (rr_ HO_591000) hb)
                have n1_ := Aside0.mk (Kd.S_below (by (with_reducible repeat (first | apply Kd.S_alloc | apply Kd.S_drewN | apply Kd.S_drew)); exact HO_591001.out) hb)
                have n2_ := Aside0.mk (Kd.R_below (rr_ HL592_2) hb)
                have n3_ := Aside0.mk (blk_below (g := gb562) (o := .cells #[.slice A0_0 l0_0.length c0_0, .slice (some ad591) l0_1.length c0_1] 25 (0, 0)) (kk_ BK562) hb)
                have n4_ := Aside0.mk (blk_below (g := gb590) (o := .cells #[.slice Ao49 t583.length co49, .slice (some ad592) t586.length co52] 25 (0, 0)) (kk_ BK590) hb)
                have n5_ := Aside0.mk (Kd.C_below (by repeat (first | (with_reducible exact HR592_2.out) | (with_reducible refine Kd.C_alloc ?_ _) | (with_reducible refine Kd.C_drewN ?_ _) | (with_reducible refine Kd.C_drew ?_) | exact HR592_2.out)) hb)
                have n6_ := Aside0.mk (below_step (by repeat (first | (with_reducible first | exact HB.out | apply below_alloc | apply pw_below_drewN | apply below_drew1 | refine below_set ?_ GE562.out | refine below_set ?_ GE590.out) | exact HB.out)) hb)
                clear HO_591000
                clear HO_591001
                clear HL592_2
                clear BK562
                clear BK590
                clear HR592_2
                clear HB
                have HO_591000 := n0_
                have HO_591001 := n1_
                have HL592_2 := n2_
                have BK562 := n3_
                have BK590 := n4_
                have HR592_2 := n5_
                have HB := n6_
                clear n0_ n1_ n2_ n3_ n4_ n5_ n6_
                (try clear hb)
                (try clear hb2)
                (try clear hk)
                (try clear hi)
                refine hK.out _ _ ⟨(blk_cell BK562.out 0).trans rfl, (blk_cell BK562.out 1).trans rfl, (blk_cell BK590.out 0).trans rfl, (blk_cell BK590.out 1).trans rfl, ((HB.out.cell (World.block_lt_of_cell? w _ hw591_0)).trans hw591_0), ((HB.out.cell (World.block_lt_of_cell? w _ hw591_1)).trans hw591_1), ((HB.out.cell (World.block_lt_of_cell? w _ hw591_2)).trans hw591_2), HS7_, HS8_, HS9_⟩ (fun hHeld => ?_)
                clear hK K
                refine norm_ (a' := ?_) ?_ ?_
                rotate_left
                ·show Act.put _ (some 118) _ = _
                 simp only [Act.put, sI_, s0_, sS_, i64_w, i32_w]
                 rfl
                refine pu_ 12 106 (w_ 17 8191) rfl HT_ ?_
                refine pu_ 13 119 (w_ 17 16383) rfl HT_ ?_
                refine pu_ 14 120 (w_ 17 32767) rfl HT_ ?_
                refine pu_ 15 19 (w_ 17 65535) rfl HT_ ?_
                refine pu_ 16 20 (w_ 17 131071) rfl HT_ ?_
                refine done_ (done_of HT_.out (by kernel_rfl)) ?_
                try go_wp2
                have n0_ := Aside0.mk (Kd.R_drew HO_591000.out)
                have n1_ := Aside0.mk (Kd.S_drew HO_591001.out)
                have n2_ := Aside0.mk (Kd.R_drew HL592_2.out)
                have n3_ := Aside0.mk (blk_drew BK562.out)
                have n4_ := Aside0.mk (blk_drew BK590.out)
                have n5_ := Aside0.mk (Kd.C_drew HR592_2.out)
                have n6_ := Aside0.mk (below_drew1 HB.out)
                clear HO_591000
                clear HO_591001
                clear HL592_2
                clear BK562
                clear BK590
                clear HR592_2
                clear HB
                have HO_591000 := n0_
                have HO_591001 := n1_
                have HL592_2 := n2_
                have BK562 := n3_
                have BK590 := n4_
                have HR592_2 := n5_
                have HB := n6_
                clear n0_ n1_ n2_ n3_ n4_ n5_ n6_
                have p595 : 0 ≤ (x18_3 : Int) := od_
                have q595 : x18_3 < (l0_1.length : Int) := od_
                obtain ⟨ad595, A595_2, c595_2, e595, hx595_0, hx595_1, hx595_2, hl595_2, hi595_2⟩ := at_T46 HR0_1.out x18_3 p595 q595
                have hw595_2 := hx595_2
                have hw595_1 := hx595_1
                have hw595_0 := hx595_0
                obtain rfl : ad591 = ad595 := (by injection e595)
                replace hx595_0 := (HB.out.cell (World.block_lt_of_cell? w _ hx595_0)).trans hx595_0
                replace hx595_1 := (HB.out.cell (World.block_lt_of_cell? w _ hx595_1)).trans hx595_1
                replace hx595_2 := (HB.out.cell (World.block_lt_of_cell? w _ hx595_2)).trans hx595_2
                have HR595_2 := Aside0.mk hi595_2
                have HC595_2 := Aside0.mk hl595_2
                clear hi595_2 hl595_2
                replace p595 := eq_true p595
                replace q595 := eq_true q595
                have p596 : 0 ≤ (x18_3 : Int) := od_
                have q596 : x18_3 < (l0_1.length : Int) := od_
                obtain ⟨ad596, A596_2, c596_2, e596, hx596_0, hx596_1, hx596_2, hl596_2, hi596_2⟩ := at_T46 HR0_1.out x18_3 p596 q596
                have hw596_2 := hx596_2
                have hw596_1 := hx596_1
                have hw596_0 := hx596_0
                obtain rfl : ad591 = ad596 := (by injection e596)
                replace hx596_0 := (HB.out.cell (World.block_lt_of_cell? w _ hx596_0)).trans hx596_0
                replace hx596_1 := (HB.out.cell (World.block_lt_of_cell? w _ hx596_1)).trans hx596_1
                replace hx596_2 := (HB.out.cell (World.block_lt_of_cell? w _ hx596_2)).trans hx596_2
                have HR596_2 := Aside0.mk hi596_2
                have HC596_2 := Aside0.mk hl596_2
                clear hi596_2 hl596_2
                replace p596 := eq_true p596
                replace q596 := eq_true q596
                have ea_ := Option.some.inj (hx595_2.symm.trans hx596_2)
                injection ea_ with ea_ en_ ec_
                subst ea_
                subst ec_
                clear en_
                refine start_ (n := 17) (S := fun w' => w'.cell? ⟨gb562, 0, none⟩ = some (.slice A0_0 l0_0.length c0_0) ∧ w'.cell? ⟨gb562, 1, none⟩ = some (.slice (some ad591) l0_1.length c0_1) ∧ w'.cell? (ad591.add ((x18_3).toNat * 3)) = some (.int .i64 ((rd_T46 l0_1 x18_3).f0)) ∧ w'.cell? ⟨(ad591.add ((x18_3).toNat * 3)).block, (ad591.add ((x18_3).toNat * 3)).off + 1, none⟩ = some (.int .i64 ((rd_T46 l0_1 x18_3).f1)) ∧ w'.cell? ⟨(ad591.add ((x18_3).toNat * 3)).block, (ad591.add ((x18_3).toNat * 3)).off + 2, none⟩ = some (.slice A595_2 ((rd_T46 l0_1 x18_3).f2).length c595_2) ∧ w'.cell? (ad591.add ((x18_3).toNat * 3)) = some (.int .i64 ((rd_T46 l0_1 x18_3).f0)) ∧ w'.cell? ⟨(ad591.add ((x18_3).toNat * 3)).block, (ad591.add ((x18_3).toNat * 3)).off + 1, none⟩ = some (.int .i64 ((rd_T46 l0_1 x18_3).f1)) ∧ w'.cell? ⟨(ad591.add ((x18_3).toNat * 3)).block, (ad591.add ((x18_3).toNat * 3)).off + 2, none⟩ = some (.slice A595_2 ((rd_T46 l0_1 x18_3).f2).length c595_2)) (ds := []) #[n_, n_, n_, n_, n_, n_, n_, n_, n_, n_, n_, n_, n_, n_, n_, n_, n_] (by kernel_rfl) rfl rfl ⟨(blk_cell BK562.out 0).trans rfl, (blk_cell BK562.out 1).trans rfl, ((HB.out.cell (World.block_lt_of_cell? w _ hw595_0)).trans hw595_0), ((HB.out.cell (World.block_lt_of_cell? w _ hw595_1)).trans hw595_1), ((HB.out.cell (World.block_lt_of_cell? w _ hw595_2)).trans hw595_2), ((HB.out.cell (World.block_lt_of_cell? w _ hw596_0)).trans hw596_0), ((HB.out.cell (World.block_lt_of_cell? w _ hw596_1)).trans hw596_1), ((HB.out.cell (World.block_lt_of_cell? w _ hw596_2)).trans hw596_2)⟩ (fun hHeld => ?_); refine with_tabW cohousinglaw26_ChainNotWorse.tab21 cohousinglaw26_ChainNotWorse.bits21 (fun HT_ HW_ => ?_)
                generalize w76.drew = w77 at HO_591000 HO_591001 HL592_2 BK562 BK590 HR592_2 HB HR595_2 HR596_2 hx595_0 hx595_1 hx595_2 hx596_0 hx596_1 hx596_2 hHeld ⊢
                refine pu_ 0 122 (w_ 17 1) rfl HT_ ?_
                refine pu_ 2 124 (w_ 17 5) rfl HT_ ?_
                refine pu_ 5 127 (w_ 17 37) rfl HT_ ?_
                refine pu_ 7 129 (w_ 17 165) rfl HT_ ?_
                refine ta_ 1 123 (w_ 17 167) rfl HT_ HW_ hHeld (by rintro w' ⟨s0, s1, s2, s3, s4, s5, s6, s7⟩; go_simp; with_reducible rfl) ?_
                refine pu_ 3 125 (w_ 17 175) rfl HT_ ?_
                refine ta_ 4 126 (w_ 17 191) rfl HT_ HW_ hHeld (by rintro w' ⟨s0, s1, s2, s3, s4, s5, s6, s7⟩; go_simp; with_reducible rfl) ?_
                refine ta_ 6 128 (w_ 17 255) rfl HT_ HW_ hHeld (by rintro w' ⟨s0, s1, s2, s3, s4, s5, s6, s7⟩; go_simp; with_reducible rfl) ?_
                refine pu_ 8 130 (w_ 17 511) rfl HT_ ?_
                refine pu_ 9 131 (w_ 17 1023) rfl HT_ ?_
                refine ta_ 10 132 (w_ 17 2047) rfl HT_ HW_ hHeld (by rintro w' ⟨s0, s1, s2, s3, s4, s5, s6, s7⟩; go_simp; with_reducible rfl) ?_
                refine one_ (i := 11) (N := some 133) (w_ 17 4095) rfl rfl (one_of HT_.out (by kernel_rfl)) (by decide) (fun K hK => ?_)
                refine goes_ Try.func28 (by kernel_rfl) rfl #[.agg #[.int .i64 ((rd_T46 l0_1 x18_3).f0), .int .i64 ((rd_T46 l0_1 x18_3).f1), .slice A595_2 ((rd_T46 l0_1 x18_3).f2).length c595_2], .int .i64 ((rd_T46 l0_1 x18_3).f1)] (by rfl) rfl rfl (by (try simp only [List.map_toArray, List.map_cons, List.map_nil]); first | done | rfl | (simp only [List.length_drop, List.length_take]; rfl)) ?_
                with_reducible refine (market_Rank.calls ((rd_T46 l0_1 x18_3).f0) ((rd_T46 l0_1 x18_3).f1) _ _ ((rd_T46 l0_1 x18_3).f2) ((rd_T46 l0_1 x18_3).f1) t597 t598 _ ?side1 ?side2 A63.out).mono ?_
                (case side1 => exact cc_ ((Kd.C_below HR595_2.out HB.out)))
                (case side2 => exact HC595_2.out)
                rintro e w78 ⟨rfl, hb⟩
                refine ⟨_, rfl, ?_⟩
                have n0_ := Aside0.mk (Kd.R_below (rr_ HO_591000) hb)
                have n1_ := Aside0.mk (Kd.S_below (by (with_reducible repeat (first | apply Kd.S_alloc | apply Kd.S_drewN | apply Kd.S_drew)); exact HO_591001.out) hb)
                have n2_ := Aside0.mk (Kd.R_below (rr_ HL592_2) hb)
                have n3_ := Aside0.mk (blk_below (g := gb562) (o := .cells #[.slice A0_0 l0_0.length c0_0, .slice (some ad591) l0_1.length c0_1] 25 (0, 0)) (kk_ BK562) hb)
                have n4_ := Aside0.mk (blk_below (g := gb590) (o := .cells #[.slice Ao49 t583.length co49, .slice (some ad592) t586.length co52] 25 (0, 0)) (kk_ BK590) hb)
                have n5_ := Aside0.mk (Kd.C_below (by repeat (first | (with_reducible exact HR592_2.out) | (with_reducible refine Kd.C_alloc ?_ _) | (with_reducible refine Kd.C_drewN ?_ _) | (with_reducible refine Kd.C_drew ?_) | exact HR592_2.out)) hb)
                have n6_ := Aside0.mk (below_step (by repeat (first | (with_reducible first | exact HB.out | apply below_alloc | apply pw_below_drewN | apply below_drew1 | refine below_set ?_ GE562.out | refine below_set ?_ GE590.out) | exact HB.out)) hb)
                clear HO_591000
                clear HO_591001
                clear HL592_2
                clear BK562
                clear BK590
                clear HR592_2
                clear HB
                have HO_591000 := n0_
                have HO_591001 := n1_
                have HL592_2 := n2_
                have BK562 := n3_
                have BK590 := n4_
                have HR592_2 := n5_
                have HB := n6_
                clear n0_ n1_ n2_ n3_ n4_ n5_ n6_
                (try clear hb)
                (try clear hb2)
                (try clear hk)
                (try clear hi)
                refine hK.out _ _ ⟨(blk_cell BK562.out 0).trans rfl, (blk_cell BK562.out 1).trans rfl, ((HB.out.cell (World.block_lt_of_cell? w _ hw595_0)).trans hw595_0), ((HB.out.cell (World.block_lt_of_cell? w _ hw595_1)).trans hw595_1), ((HB.out.cell (World.block_lt_of_cell? w _ hw595_2)).trans hw595_2), ((HB.out.cell (World.block_lt_of_cell? w _ hw596_0)).trans hw596_0), ((HB.out.cell (World.block_lt_of_cell? w _ hw596_1)).trans hw596_1), ((HB.out.cell (World.block_lt_of_cell? w _ hw596_2)).trans hw596_2)⟩ (fun hHeld => ?_)
                clear hK K
                refine norm_ (a' := ?_) ?_ ?_
                rotate_left
                ·show Act.put _ (some 133) _ = _
                 simp only [Act.put, sI_, s0_, sS_, i64_w, i32_w]
                 rfl
                refine pu_ 12 121 (w_ 17 8191) rfl HT_ ?_
                refine pu_ 13 134 (w_ 17 16383) rfl HT_ ?_
                refine pu_ 14 135 (w_ 17 32767) rfl HT_ ?_
                refine pu_ 15 21 (w_ 17 65535) rfl HT_ ?_
                refine pu_ 16 22 (w_ 17 131071) rfl HT_ ?_
                refine done_ (done_of HT_.out (by kernel_rfl)) ?_
                try go_wp2
                go_roundg k3
                case measure => have := HK1.out; have := HJ41.out; have := HK3.out; omega
                case rel => exact ⟨(wrap64 (x18_3 + 1)), sd_, H', ⟨by have := HK1.out; have := HJ41.out; have := HK3.out; omega⟩, ⟨by (with_reducible repeat (first | apply Kd.R_alloc | apply Kd.R_drewN | apply Kd.R_drew)); exact HO_591000.out⟩, ⟨by (with_reducible repeat (first | apply Kd.S_alloc | apply Kd.S_drewN | apply Kd.S_drew)); exact HO_591001.out⟩, ⟨by (with_reducible repeat (first | refine blk_drewN ?_ _ | refine blk_drew ?_ | refine blk_alloc ?_ _)); exact BK562.out⟩, ⟨by (with_reducible repeat (first | refine blk_drewN ?_ _ | refine blk_drew ?_ | refine blk_alloc ?_ _)); exact BK590.out⟩, ⟨by repeat (first | (with_reducible first | exact HB.out | apply below_alloc | apply pw_below_drewN | apply below_drew1 | refine below_set ?_ GE562.out | refine below_set ?_ GE590.out) | exact HB.out)⟩⟩
              ·rw [if_neg c65] at H
               have c65b0 : (t598 == 0) = false := beq_eq_false_iff_ne.mpr c65
               have c65b1 : (t598 != 0) = true := bne_iff_ne.mpr c65
               exact absurd (Option.some.inj H) (by decide)
             ·rw [if_neg c64] at H
              have c64b0 : (t594 == 0) = false := beq_eq_false_iff_ne.mpr c64
              have c64b1 : (t594 != 0) = true := bne_iff_ne.mpr c64
              exact absurd (Option.some.inj H) (by decide)
            ·rw [if_neg c61] at H
             exact absurd H (by simp)
           ·rw [if_neg c60] at H
            exact absurd H (by simp)
          ·rw [if_neg c59] at H
           have c59b0 : decide (x18_3 < (l0_1.length : Int)) = false := decide_eq_false c59
           clear c59
           have hfin_ := Option.some.inj H
           have hnb91 := NB562_590.out
           have hnc91 := NB590_562.out
           have hcz92_0 : wr.cell? ⟨gb562, 0, none⟩ = some (.slice A0_0 l0_0.length c0_0) := (blk_cell BK562.out 0).trans rfl
           have hcz92_1 : wr.cell? ⟨gb562, 1, none⟩ = some (.slice A0_1 l0_1.length c0_1) := (blk_cell BK562.out 1).trans rfl
           have hfz92_0 := blk_frozen BK562.out 0
           have hfz92_1 := blk_frozen BK562.out 1
           go_wp2
           go_ret
           exact ⟨ew_, by repeat (first | (with_reducible first | exact HB.out | apply below_alloc | apply pw_below_drewN | apply below_drew1 | refine below_set ?_ GE562.out | refine below_set ?_ GE590.out) | exact HB.out)⟩
 ·replace c7 := Bool.eq_false_iff.mpr c7
  subst c7
  have H1 : (some t563) = some true := by rw [if_neg (show ¬ (false = true) by decide)] at H; exact H
  clear H
  have H := H1
  clear H1
  have hfin_ := Option.some.inj H
  go_enter Try.func9, Try.ntmps9
  go_wp2_with (first | ((with_reducible refine gate_dst (N := 4) rfl ?_); (try (refine gate_guard (by rfl) ?_; dsimp only)); refine box_event ?hg (N := 4) ?hd (cs := #[.slice A0_0 l0_0.length c0_0, .slice A0_1 l0_1.length c0_1]) (t := 25) ?hr ?_; (case hd => rfl); (case hg => rfl); (case hr => first | (go_simp; done) | (go_simp; rfl)); intro gb562 hg w93 hbox hb; have n0_ := Aside0.mk (below_step (bb_ HB) hb); have n1_ := Aside0.mk (hbox); have n2_ := Aside0.mk ((by rw [hg]; exact (below_size (bb_ HB)) : w.heap.size ≤ gb562)); have n3_ := Aside0.mk ((by rw [hg]; exact (below_size (bb_ HB)) : w.heap.size ≤ gb562)); clear HB; have HB := n0_; have BK562 := n1_; have GW562 := n2_; have GE562 := n3_; clear n0_ n1_ n2_ n3_; clear hb hbox hg) | ((with_reducible refine gate_callee (f := 10) rfl ?_); refine gl_ (some 23) Try.func10 #[] ?_; (with_reducible refine (cohousinglaw26_head.calls k  t563 _ A5.out).mono ?_); rintro e w94 ⟨rfl, hb⟩; refine ⟨_, rfl, ?_⟩; have n0_ := Aside0.mk (blk_below (g := gb562) (o := .cells #[.slice A0_0 l0_0.length c0_0, .slice A0_1 l0_1.length c0_1] 25 (0, 0)) (kk_ BK562) hb); have n1_ := Aside0.mk (below_step (bs_ HB GE562.out) hb); clear BK562; clear HB; have BK562 := n0_; have HB := n1_; clear n0_ n1_; (try clear hb); (try clear hb2); (try clear hk); (try clear hi); have hcz95_0 : w94.cell? ⟨gb562, 0, none⟩ = some (.slice A0_0 l0_0.length c0_0) := (blk_cell BK562.out 0).trans rfl; have hcz95_1 : w94.cell? ⟨gb562, 1, none⟩ = some (.slice A0_1 l0_1.length c0_1) := (blk_cell BK562.out 1).trans rfl; have hfz95_0 := blk_frozen BK562.out 0; have hfz95_1 := blk_frozen BK562.out 1) | ((with_reducible refine gate_callee (f := 20) rfl ?_); refine gl_ (some 27) Try.func20 #[.agg #[.slice A0_0 l0_0.length c0_0, .slice A0_1 l0_1.length c0_1], .slice A1 l1.length c1, .slice A3 l3.length c3] ?_; (with_reducible refine (cohousinglaw26_usable.calls k _ _ l0_0 _ _ l0_1 _ _ l1 _ _ l3 false _ ?side1 ?side2 ?side3 ?side4 ?side5 ?side6 ?side7 ?side8 A6.out).mono ?_); (case side1 => exact cc_ ((Kd.C_below HR0_0.out HB.out))); (case side2 => exact HC0_0.out); (case side3 => exact cc_ ((Kd.C_below HR0_1.out HB.out))); (case side4 => exact HC0_1.out); (case side5 => exact cc_ ((Kd.C_below HR1.out HB.out))); (case side6 => exact HC1.out); (case side7 => exact cc_ ((Kd.C_below HR3.out HB.out))); (case side8 => exact HC3.out); rintro e w96 ⟨rfl, hb⟩; refine ⟨_, rfl, ?_⟩; have n0_ := Aside0.mk (blk_below (g := gb562) (o := .cells #[.slice A0_0 l0_0.length c0_0, .slice A0_1 l0_1.length c0_1] 25 (0, 0)) (kk_ BK562) hb); have n1_ := Aside0.mk (below_step (bs_ HB GE562.out) hb); clear BK562; clear HB; have BK562 := n0_; have HB := n1_; clear n0_ n1_; (try clear hb); (try clear hb2); (try clear hk); (try clear hi)))
  go_ret
  exact ⟨ew_, by repeat (first | (with_reducible first | exact HB.out | apply below_alloc | apply pw_below_drewN | apply below_drew1 | refine below_set ?_ GE562.out) | exact HB.out)⟩
end
end Go.Proofs.Ytocbiggglnpeoaa.P
end
section
namespace Go.Proofs.Ytocbiggglnpeoaa.P
open Go.RowKit Go.Proofs.YtocbiggglnpeoaaW.PrintWords Go.Proofs.YtocbiggglnpeoaaW.PrintLast Go.Proofs.YtocbiggglnpeoaaW.PrintMore Go.Proofs.YtocbiggglnpeoaaH
open Classical
theorem cutL_last (own : Int) : ∀ (l : List Int) (j : Nat), (cutL own l)[j]? = some own → j + 1 = (cutL own l).length
 | [], j, h => by
  have hj : j < 1 := by simpa [cutL] using (List.getElem?_eq_some_iff.1 h).1
  have e : j = 0 := by omega
  subst e
  rfl
 | w :: t, j, h => by
  unfold cutL at h ⊢
  by_cases e : w = own
  ·rw [if_pos e] at h ⊢
   have hj : j < 1 := by simpa using (List.getElem?_eq_some_iff.1 h).1
   have e : j = 0 := by omega
   subst e
   rfl
  ·rw [if_neg e] at h ⊢
   cases j with
   | zero => exact absurd (by simpa using h) e
   | succ j =>
    have := cutL_last own t j (by simpa using h)
    rw [List.length_cons, ← this]
theorem cutL_own (own : Int) : ∀ l : List Int, own ∈ cutL own l
 | [] => by simp [cutL]
 | w :: t => by
  unfold cutL
  by_cases e : w = own
  ·rw [if_pos e]; simp [e]
  ·rw [if_neg e]; exact List.mem_cons_of_mem _ (cutL_own own t)
theorem cutL_len (own : Int) : ∀ l : List Int, (cutL own l).length ≤ l.length + 1
 | [] => by simp [cutL]
 | w :: t => by
  unfold cutL
  by_cases e : w = own
  ·rw [if_pos e]; simp
  ·rw [if_neg e, List.length_cons, List.length_cons]; have := cutL_len own t; omega
theorem rank_mem {own x : Int} {l : List Int} (h : x ∈ cutL own l) : ∃ j : Nat, (cutL own l)[j]? = some x ∧ rankR own l x = ((j : Int), 0) := by
 have hat : ∀ y ∈ rankE own l, (cutL own l)[y.1]? = some y.2 := by
  intro y hy
  unfold rankE at hy
  obtain ⟨p, hp, rfl⟩ := List.mem_map.1 hy
  exact List.mem_zipIdx_iff_getElem?.1 hp
 obtain ⟨k, hk, e⟩ := List.mem_iff_getElem.1 h
 have hmem : (k, x) ∈ rankE own l := by
  have := rankE_at (own := own) (l := l) (k := k) (x := x) (by rw [List.getElem?_eq_getElem hk, e])
  exact List.mem_of_getElem? this
 unfold rankR
 cases hf : (rankE own l).find? (fun y => y.2 == x) with
 | none => exact absurd (List.find?_eq_none.1 hf (k, x) hmem) (by simp)
 | some y =>
  have h1 := hat y (List.mem_of_find?_eq_some hf)
  have h2 : y.2 = x := by have := List.find?_some hf; simpa using this
  rw [h2] at h1
  exact ⟨y.1, h1, rfl⟩
theorem Ranking_f (id own : Int) (l : List Int) (hl : l.length ≤ 1000) : Ev (fun k => cohousingref23_Ranking.f k id own l) (cutL own l) := by
 have key : ∀ i, i ≤ l.length → ∀ acc : List Int, acc.length ≤ i → Ev (fun k => cohousingref23_Ranking.l0 k acc (i : Int) id own l) (acc ++ cutL own (l.drop i)) := by
  refine loopUp l.length _ ?_ ?_
  ·intro acc ha
   have h1 : ¬ (((l.length : Nat) : Int) < (l.length : Int)) := Int.lt_irrefl _
   have h2 : acc.length < 17592186044416 := by omega
   refine Ev.step ?_
   simp only [cohousingref23_Ranking.l0, h1, h2, if_true, if_false]
   rw [List.drop_length]
   exact Ev.pure _
  ·intro i hi ih acc ha
   have h1 : (i : Int) < (l.length : Int) := by omega
   have h2 : (0 : Int) ≤ (i : Int) := by omega
   have h3 : acc.length < 17592186044416 := by omega
   rw [List.drop_eq_getElem_cons hi]
   have hrd := rd_get l i hi
   unfold cutL
   refine Ev.step ?_
   by_cases e : l[i] = own
   ·have e' : rd l (i : Int) = own := hrd.trans e
    rw [if_pos e]
    simp only [cohousingref23_Ranking.l0, h1, h2, h3, if_true, Option.bind_some, e']
    rw [e]
    exact Ev.pure _
   ·have e' : ¬ (rd l (i : Int) = own) := fun h => e (hrd.symm.trans h)
    rw [if_neg e]
    simp only [cohousingref23_Ranking.l0, h1, h2, h3, if_true, if_false, Option.bind_some, e', wrap_nat (show i ≤ 140737488355328 by omega)]
    have := ih (acc ++ [rd l (i : Int)]) (by rw [List.length_append]; simp; omega)
    rw [hrd, List.append_assoc] at this
    rw [hrd]
    exact this
 exact key 0 (Nat.zero_le _) [] (Nat.zero_le _)
theorem notworse_ (fl : List FT) (pa : List PT) (l : List GT) (a : Int) (rs : List YT) (ha : 0 ≤ a ∧ a ≤ 65535) : Ev (fun k => cohousinglaw26_ChainNotWorse.f k fl pa l a rs) true := by
 unfold cohousinglaw26_ChainNotWorse.f
 refine Ev.bnd head26 ?_
 refine Ev.bnd (usable_f fl pa l rs) ?_
 by_cases U : Usable fl pa l rs
 case neg =>
  simp only [decide_eq_false U, Bool.false_eq_true, if_false]
  exact Ev.pure _
 simp only [decide_eq_true U, if_true]
 obtain ⟨day, hday⟩ : ∃ d, d = a % 36525 := ⟨_, rfl⟩
 have hd : 0 ≤ day ∧ day ≤ 36524 := by omega
 have hon := on_f ha.1 ha.2
 rw [← hday] at hon
 have hM := U.m
 have hR := U.r
 have hpl := U.fm.p
 have hlr := U.fr.len
 have e1 := runR_ok hM hR U.y hd.1 hd.2
 have e2 := Run_f (rs := rs) day U.fm U.fr.len U.fr.m (by have := U.fr.r; omega)
 rw [e1] at e2
 have hgf := go_few (rs := rs) (due := day) U.fr.len U.fr.m
 have e3 := Next_f (ms := goR rs day l l.length) (gs := []) U.fm (by omega) (by simp)
 rw [next_go hM hR] at e3
 let Good : Nat → Nat → Prop := fun n k => ∀ j, j < pa.length → pid pa j = (mv (rg l n).f1 k).f0 → (mv (rg l n).f1 k).f2 ∈ cutL (pfl pa j) (pwt pa j)
 have last : (∀ n, n < l.length → ∀ k, k < (rg l n).f1.length → Good n k) → Ev (fun k => cohousinglaw26_ChainNotWorse.j2 k true false fl pa fl (kept (goR rs day l l.length) [] pa pa.length)) true := by
  intro hgood
  have hfl : ∀ i, i < pa.length → flA (goR rs day l l.length) pa i ∈ cutL (pfl pa i) (pwt pa i) := by
   intro i hi
   unfold flA
   cases hx : toM (goR rs day l l.length) (goR rs day l l.length).length (pid pa i) with
   | none => exact cutL_own _ _
   | some t =>
    obtain ⟨k, hk, h1, h2⟩ := toM_some hx
    obtain ⟨n, hn, k', hk', e⟩ := (mem_goR l.length).1 (mv_mem hk)
    have := hgood n hn k' (Nat.lt_of_lt_of_le hk' (told_ring rs day (rg l n)).le) i hi (by rw [← e, h1])
    rw [← e, h2] at this
    exact this
  have key : ∀ i, i ≤ pa.length → Ev (fun k => cohousinglaw26_ChainNotWorse.l2 k true (i : Int) fl pa fl (kept (goR rs day l l.length) [] pa pa.length)) true := by
   refine loopUp pa.length _ ?_ ?_
   ·have h1 : ¬ (((pa.length : Nat) : Int) < (pa.length : Int)) := Int.lt_irrefl _
    refine Ev.step ?_
    simp only [cohousinglaw26_ChainNotWorse.l2, h1, if_false]
    exact Ev.pure _
   ·intro i hi ih
    have h1 : (i : Int) < (pa.length : Int) := by omega
    have h2 : (0 : Int) ≤ (i : Int) := by omega
    have h3 : (i : Int) < ((kept (goR rs day l l.length) [] pa pa.length).length : Int) := by rw [kept_nil_len]; exact h1
    have hw := U.fm.w i hi
    have hwl : (rd_T46 pa (i : Int)).f2.length ≤ 5864062014805 := by simp only [pwt] at hw; omega
    obtain ⟨j1, a1, b1⟩ := rank_mem (hfl i hi)
    obtain ⟨j2, a2, b2⟩ := rank_mem (cutL_own (pfl pa i) (pwt pa i))
    have hl1 := cutL_last _ _ _ a2
    have hl2 := (List.getElem?_eq_some_iff.1 a1).1
    have hle : ¬ ((j1 : Int) > (j2 : Int)) := by omega
    have r1 : market_Rank.f (rd_T46 pa (i : Int)).f0 (rd_T46 pa (i : Int)).f1 (rd_T46 pa (i : Int)).f2 (flA (goR rs day l l.length) pa i) = some ((j1 : Int), 0) := by
     unfold market_Rank.f; rw [if_pos hwl]; exact congrArg some b1
    have r2 : market_Rank.f (rd_T46 pa (i : Int)).f0 (rd_T46 pa (i : Int)).f1 (rd_T46 pa (i : Int)).f2 (rd_T46 pa (i : Int)).f1 = some ((j2 : Int), 0) := by
     unfold market_Rank.f; rw [if_pos hwl]; exact congrArg some b2
    refine Ev.step ?_
    simp only [cohousinglaw26_ChainNotWorse.l2, h1, h2, h3, if_true, kept_nil_at _ pa hi, newP, r1, r2, Option.bind_some, hle, if_false, wrap_nat (show i ≤ 140737488355328 by omega)]
    exact ih
  refine Ev.step ?_
  simp only [cohousinglaw26_ChainNotWorse.j2, Bool.false_eq_true, if_false]
  exact key 0 (Nat.zero_le _)
 have key : ∀ n, n ≤ l.length → ((∀ m, m < n → ∀ k, k < (rg l m).f1.length → Good m k) → Ev (fun k => cohousinglaw26_ChainNotWorse.l0 k l a rs true (n : Int) fl pa) true) := by
  refine loopUp l.length _ ?_ ?_
  ·intro hgood
   have h1 : ¬ (((l.length : Nat) : Int) < (l.length : Int)) := Int.lt_irrefl _
   have hl := last hgood
   refine Ev.step ?_
   simp only [cohousinglaw26_ChainNotWorse.l0, h1, if_false, hon, Option.bind_some, e2, e3, if_true, kept_nil_len, bne_self_eq_false]
   exact hl
  ·intro n hlt ih hgood
   have h1 : (n : Int) < (l.length : Int) := by omega
   have h2 : (0 : Int) ≤ (n : Int) := by omega
   have hrn := U.fr.m n hlt
   have loop : ∀ m, m ≤ (rg l n).f1.length → ((∀ k, k < m → Good n k) → Ev (fun k => cohousinglaw26_ChainNotWorse.l1 k l a rs true (n : Int) (m : Int) fl pa) true) := by
    refine loopUp (rg l n).f1.length _ ?_ ?_
    ·intro hk
     have c1 : ¬ ((((rg l n).f1.length : Nat) : Int) < ((rg l n).f1.length : Int)) := Int.lt_irrefl _
     refine Ev.step ?_
     simp only [cohousinglaw26_ChainNotWorse.l1, h1, h2, c1, if_true, if_false, wrap_nat (show n ≤ 140737488355328 by omega)]
     refine ih (fun m hm => ?_)
     by_cases e : m = n
     ·subst e; exact hk
     ·exact hgood m (by omega)
    ·intro m hm ihm hk
     have c1 : (m : Int) < ((rg l n).f1.length : Int) := by omega
     have c2 : (0 : Int) ≤ (m : Int) := by omega
     obtain ⟨j, hj0, hj, hj1, _, _⟩ := hR.fit n hlt m hm
     have c3 : (0 : Int) ≤ (j : Int) := by omega
     have c4 : (j : Int) < (pa.length : Int) := by omega
     have hwj := U.fm.w j hj
     have hPf := Party_f fl pa (mv (rg l n).f1 m).f0 (by omega)
     rw [hj0] at hPf
     refine Ev.step ?_
     simp only [cohousinglaw26_ChainNotWorse.l1, h1, h2, c1, c2, if_true]
     refine Ev.bnd hPf ?_
     simp only [c3, c4, if_true]
     refine Ev.bnd (Ranking_f (pid pa j) (pfl pa j) (pwt pa j) (by omega)) ?_
     refine Ev.bnd (In_f (cutL (pfl pa j) (pwt pa j)) (mv (rg l n).f1 m).f2 (by have := cutL_len (pfl pa j) (pwt pa j); omega)) ?_
     by_cases hin : (mv (rg l n).f1 m).f2 ∈ cutL (pfl pa j) (pwt pa j)
     ·have hin' : ¬ (inR (cutL (pfl pa j) (pwt pa j)) (mv (rg l n).f1 m).f2 < 0) := fun h => (inR_neg _ _).1 h hin
      simp only [hin', if_false, wrap_nat (show m ≤ 140737488355328 by omega)]
      refine ihm (fun k hk' => ?_)
      by_cases e : k = m
      ·subst e
       intro j' hj' e'
       have : j' = j := hM.inj hj' hj (by rw [e', hj1])
       rw [this]
       exact hin
      ·exact hk k (by omega)
     ·have hin' := (inR_neg _ _).2 hin
      simp only [hin', if_true]
      exact Ev.pure _
   refine Ev.step ?_
   simp only [cohousinglaw26_ChainNotWorse.l0, h1, if_true]
   exact loop 0 (Nat.zero_le _) (fun k hk => absurd hk (Nat.not_lt_zero _))
 exact key 0 (Nat.zero_le _) (fun m hm => absurd hm (Nat.not_lt_zero _))
end Go.Proofs.Ytocbiggglnpeoaa.P
end
