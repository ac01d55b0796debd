/- Part 1 of the proof of ChainAgreement: what it alone needs. -/
import Derived.Test.YtocbiggglnpeoaaCQf
set_option linter.unusedVariables false
set_option linter.unusedSimpArgs false
section
namespace Go.Proofs.Ytocbiggglnpeoaa.P
open Go.RowKit Go.Proofs.YtocbiggglnpeoaaW.PrintWords Go.Proofs.YtocbiggglnpeoaaW.PrintLast Go.Proofs.YtocbiggglnpeoaaW.PrintMore
attribute [local go_sem] max2_int min2_int max_two min_two max_three min_three max_four min_four
set_option linter.unusedVariables false
set_option linter.unusedSimpArgs false
set_option maxHeartbeats 8000000
set_option maxRecDepth 100000
section
attribute [local go_sem high] eqA51
mutual
def cohousinglaw26_ChainAgreement.l0 : Nat → List (S49) → Int → List (S55) → Bool → List (S51) → List Int → Int → Int → Option (Bool)
 | 0, _, _, _, _, _, _, _, _ => none
 | k + 1, x1, x2, x3, x9, x10, x11, x13, x14 => if x14 < (x1.length : Int) then (cohousinglaw26_ChainAgreement.l1 k x1 x2 x3 x9 x10 x11 x13 x14 0 true 0) else (if x9 = true then (some (x13 == (x10.length : Int))) else (some false))
def cohousinglaw26_ChainAgreement.l1 : Nat → List (S49) → Int → List (S55) → Bool → List (S51) → List Int → Int → Int → Int → Bool → Int → Option (Bool)
 | 0, _, _, _, _, _, _, _, _, _, _, _ => none
 | k + 1, x1, x2, x3, x9, x10, x11, x13, x14, x15, x16, x17 => if 0 ≤ x14 then (if x14 < (x1.length : Int) then (if x17 < (((rd_T49 x1 x14).f1).length : Int) then (if 0 ≤ x17 then ((cohousinglaw26_on.f x2).bind fun t435 => ((cohousingref26_Agrees.f k x3 ((rd_T51 ((rd_T49 x1 x14).f1) x17).f0) t435).bind fun t436 => (if x16 = true then (cohousinglaw26_ChainAgreement.j2 k x1 x2 x3 x9 x10 x11 x13 x14 x15 t436 x17 t436 ((rd_T51 ((rd_T49 x1 x14).f1) x17).f0) ((rd_T51 ((rd_T49 x1 x14).f1) x17).f1) ((rd_T51 ((rd_T49 x1 x14).f1) x17).f2)) else (cohousinglaw26_ChainAgreement.j2 k x1 x2 x3 x9 x10 x11 x13 x14 x15 false x17 t436 ((rd_T51 ((rd_T49 x1 x14).f1) x17).f0) ((rd_T51 ((rd_T49 x1 x14).f1) x17).f1) ((rd_T51 ((rd_T49 x1 x14).f1) x17).f2))))) else (none)) else (if ((rd_T49 x1 x14).f0 = true) then (if x16 = true then (if x15 = (((rd_T49 x1 x14).f1).length : Int) then ((cohousingref23_In.f k x11 x14).bind fun t423 => (if ((decide (t423 < 0)) != x16) = true then (some false) else (cohousinglaw26_ChainAgreement.l0 k x1 x2 x3 x9 x10 x11 x13 (wrap64 (x14 + 1))))) else (some false)) else ((cohousingref23_In.f k x11 x14).bind fun t424 => (if ((decide (t424 < 0)) != x16) = true then (some false) else (cohousinglaw26_ChainAgreement.l0 k x1 x2 x3 x9 x10 x11 x13 (wrap64 (x14 + 1)))))) else (if x15 = 0 then (if x16 = true then (if x15 = (((rd_T49 x1 x14).f1).length : Int) then ((cohousingref23_In.f k x11 x14).bind fun t426 => (if ((decide (t426 < 0)) != x16) = true then (some false) else (cohousinglaw26_ChainAgreement.l0 k x1 x2 x3 x9 x10 x11 x13 (wrap64 (x14 + 1))))) else (some false)) else ((cohousingref23_In.f k x11 x14).bind fun t427 => (if ((decide (t427 < 0)) != x16) = true then (some false) else (cohousinglaw26_ChainAgreement.l0 k x1 x2 x3 x9 x10 x11 x13 (wrap64 (x14 + 1)))))) else (if x15 = (((rd_T49 x1 x14).f1).length : Int) then (if x16 = true then ((cohousingref23_In.f k x11 x14).bind fun t430 => (if ((decide (t430 < 0)) != x16) = true then (some false) else (cohousinglaw26_ChainAgreement.l0 k x1 x2 x3 x9 x10 x11 x13 (wrap64 (x14 + 1))))) else ((cohousingref23_In.f k x11 x14).bind fun t431 => (if ((decide (t431 < 0)) != x16) = true then (some false) else (cohousinglaw26_ChainAgreement.l0 k x1 x2 x3 x9 x10 x11 x13 (wrap64 (x14 + 1)))))) else (some false))))) else (none)) else (none)
def cohousinglaw26_ChainAgreement.j2 : Nat → List (S49) → Int → List (S55) → Bool → List (S51) → List Int → Int → Int → Int → Bool → Int → Bool → Int → Int → Int → Option (Bool)
 | 0, _, _, _, _, _, _, _, _, _, _, _, _, _, _, _ => none
 | k + 1, x1, x2, x3, x9, x10, x11, x13, x14, x15, x16, x17, x19, x435000, x435001, x435002 => if x13 < (x10.length : Int) then (if 0 ≤ x13 then (cohousinglaw26_ChainAgreement.j3 k x1 x2 x3 x9 x10 x11 x13 x14 x15 x16 x17 x19 (((rd_T51 x10 x13).f0) == x435000 && (((rd_T51 x10 x13).f1) == x435001 && (((rd_T51 x10 x13).f2) == x435002)))) else (none)) else (cohousinglaw26_ChainAgreement.j3 k x1 x2 x3 x9 x10 x11 x13 x14 x15 x16 x17 x19 false)
def cohousinglaw26_ChainAgreement.j3 : Nat → List (S49) → Int → List (S55) → Bool → List (S51) → List Int → Int → Int → Int → Bool → Int → Bool → Bool → Option (Bool)
 | 0, _, _, _, _, _, _, _, _, _, _, _, _, _ => none
 | k + 1, x1, x2, x3, x9, x10, x11, x13, x14, x15, x16, x17, x19, x84 => if x84 = true then (if x19 = true then (if x15 = x17 then (cohousinglaw26_ChainAgreement.l1 k x1 x2 x3 x9 x10 x11 (wrap64 (x13 + 1)) x14 (wrap64 (x15 + 1)) x16 (wrap64 (x17 + 1))) else (some false)) else (some false)) else (cohousinglaw26_ChainAgreement.l1 k x1 x2 x3 x9 x10 x11 x13 x14 x15 x16 (wrap64 (x17 + 1)))
end
def cohousinglaw26_ChainAgreement.f (k : Nat) (l0_0 : List (S84)) (l0_1 : List (S46)) (l1 : List (S49)) (a2 : Int) (l3 : List (S55)) : Option (Bool) := (cohousinglaw26_head.f k).bind fun t410 => ((cohousinglaw26_usable.f k l0_0 l0_1 l1 l3).bind fun t411 => (if t411 = true then ((cohousinglaw26_on.f a2).bind fun t412 => ((chain_Run.f l0_0 l0_1 l1 t412 l3).bind fun bt413 => (if bt413.2.2 = 0 then (cohousinglaw26_ChainAgreement.l0 k l1 a2 l3 t410 bt413.1 bt413.2.1 0 0) else (some false)))) else (some t410)))
def cohousinglaw26_ChainAgreement.T4 : Bool × List (List Nat × List Nat) := (true, [([], []), ([], []), ([], []), ([2], [2]), ([], []), ([0, 1, 3, 4, 3], [0, 1, 3, 4]), ([5], [5]), ([6], [6]), ([6], [6]), ([6], [6]), ([7, 5, 0, 1, 2, 3, 4, 5, 6, 7], [7]), ([8, 10, 0, 1, 2, 3, 4, 5, 6, 7, 8, 10], [8]), ([9, 11, 0, 1, 2, 3, 4, 5, 6, 7, 8, 9, 10, 11], [9])])
def cohousinglaw26_ChainAgreement.B4 : List Nat := [0, 0, 0, 4, 0, 31, 63, 127, 127, 127, 255, 1535, 4095]
theorem cohousinglaw26_ChainAgreement.tab4 : rtab .any (opsOf Try.f5 4) = cohousinglaw26_ChainAgreement.T4 := by kernel_rfl
theorem cohousinglaw26_ChainAgreement.bits4 : waitsOk cohousinglaw26_ChainAgreement.T4.2 cohousinglaw26_ChainAgreement.B4 = true := by kernel_rfl
def cohousinglaw26_ChainAgreement.T19 : Bool × List (List Nat × List Nat) := (true, [([], []), ([], []), ([1], [1]), ([0, 2], [0, 2]), ([3], [3]), ([4], [4]), ([4], [4]), ([5, 6, 4], [4, 5, 6]), ([7, 4], [4, 7]), ([4], [4]), ([8, 9, 4], [4, 8, 9]), ([4, 10], [4, 10])])
def cohousinglaw26_ChainAgreement.B19 : List Nat := [0, 0, 2, 7, 15, 31, 31, 127, 255, 31, 1023, 2047]
theorem cohousinglaw26_ChainAgreement.tab19 : rtab .any (opsOf Try.f5 19) = cohousinglaw26_ChainAgreement.T19 := by kernel_rfl
theorem cohousinglaw26_ChainAgreement.bits19 : waitsOk cohousinglaw26_ChainAgreement.T19.2 cohousinglaw26_ChainAgreement.B19 = true := by kernel_rfl
theorem cohousinglaw26_ChainAgreement.calls (k : Nat) (A0_0 : Option Addr) (c0_0 : Nat) (l0_0 : List (S84)) (A0_1 : Option Addr) (c0_1 : Nat) (l0_1 : List (S46)) (A1 : Option Addr) (c1 : Nat) (l1 : List (S49)) (a2 : Int) (A3 : Option Addr) (c3 : Nat) (l3 : List (S55)) (r : Bool) (w : World) (hr0_0 : Kd.C k84 w A0_0 l0_0.length l0_0) (hc0_0 : l0_0.length ≤ c0_0) (hr0_1 : Kd.C k46 w A0_1 l0_1.length l0_1) (hc0_1 : l0_1.length ≤ c0_1) (hr1 : Kd.C k49 w A1 l1.length l1) (hc1 : l1.length ≤ c1) (hr3 : Kd.C k55 w A3 l3.length l3) (hc3 : l3.length ≤ c3) (h : cohousinglaw26_ChainAgreement.f k l0_0 l0_1 l1 a2 l3 = some r) :
  Calls Try.prog 5 #[.agg #[.slice A0_0 l0_0.length c0_0, .slice A0_1 l0_1.length c0_1], .slice A1 l1.length c1, .int .u16 a2, .slice A3 l3.length c3] w fun e w' => e = .returned (.bool r) ∧ Below w.heap.size w w' := by
 have hu25 := Try.underlying25
 have hu51 := Try.underlying51
 have HR0_0 := Aside0.mk hr0_0
 have HC0_0 := Aside0.mk hc0_0
 clear hr0_0 hc0_0
 have HR0_1 := Aside0.mk hr0_1
 have HC0_1 := Aside0.mk hc0_1
 clear hr0_1 hc0_1
 have HR1 := Aside0.mk hr1
 have HC1 := Aside0.mk hc1
 clear hr1 hc1
 have HR3 := Aside0.mk hr3
 have HC3 := Aside0.mk hc3
 clear hr3 hc3
 have HB := Aside0.mk (Below.refl w.heap.size w)
 have H : ((cohousinglaw26_head.f k).bind fun t410 => ((cohousinglaw26_usable.f k l0_0 l0_1 l1 l3).bind fun t411 => (if t411 = true then ((cohousinglaw26_on.f a2).bind fun t412 => ((chain_Run.f l0_0 l0_1 l1 t412 l3).bind fun bt413 => (if bt413.2.2 = 0 then (cohousinglaw26_ChainAgreement.l0 k l1 a2 l3 t410 bt413.1 bt413.2.1 0 0) else (some false)))) else (some t410)))) = some r := h
 clear h
 replace H := Option.bind_eq_some_iff.mp H
 obtain ⟨t410, A50, H⟩ := H
 replace H : ((cohousinglaw26_usable.f k l0_0 l0_1 l1 l3).bind fun t411 => (if t411 = true then ((cohousinglaw26_on.f a2).bind fun t412 => ((chain_Run.f l0_0 l0_1 l1 t412 l3).bind fun bt413 => (if bt413.2.2 = 0 then (cohousinglaw26_ChainAgreement.l0 k l1 a2 l3 t410 bt413.1 bt413.2.1 0 0) else (some false)))) else (some t410))) = some r := H
 have A5 := Aside0.mk A50
 clear A50
 replace H := Option.bind_eq_some_iff.mp H
 obtain ⟨t411, A60, H⟩ := H
 replace H : (if t411 = true then ((cohousinglaw26_on.f a2).bind fun t412 => ((chain_Run.f l0_0 l0_1 l1 t412 l3).bind fun bt413 => (if bt413.2.2 = 0 then (cohousinglaw26_ChainAgreement.l0 k l1 a2 l3 t410 bt413.1 bt413.2.1 0 0) else (some false)))) else (some t410)) = some r := H
 have A6 := Aside0.mk A60
 clear A60
 by_cases c7 : t411 = true
 ·subst c7
  have H1 : ((cohousinglaw26_on.f a2).bind fun t412 => ((chain_Run.f l0_0 l0_1 l1 t412 l3).bind fun bt413 => (if bt413.2.2 = 0 then (cohousinglaw26_ChainAgreement.l0 k l1 a2 l3 t410 bt413.1 bt413.2.1 0 0) else (some false)))) = some r := by rw [if_pos rfl] at H; exact H
  clear H
  have H := H1
  clear H1
  replace H := Option.bind_eq_some_iff.mp H
  obtain ⟨t412, A80, H⟩ := H
  replace H : ((chain_Run.f l0_0 l0_1 l1 t412 l3).bind fun bt413 => (if bt413.2.2 = 0 then (cohousinglaw26_ChainAgreement.l0 k l1 a2 l3 t410 bt413.1 bt413.2.1 0 0) else (some false))) = some r := H
  have A8 := Aside0.mk A80
  clear A80
  replace H := Option.bind_eq_some_iff.mp H
  obtain ⟨⟨t413, t416, t419⟩, A90, H⟩ := H
  replace H : (if t419 = 0 then (cohousinglaw26_ChainAgreement.l0 k l1 a2 l3 t410 t413 t416 0 0) else (some false)) = some r := H
  have A9 := Aside0.mk A90
  clear A90
  by_cases c10 : t419 = 0
  ·rw [if_pos c10] at H
   have c10b0 : (t419 == 0) = true := beq_iff_eq.mpr c10
   have c10b1 : (t419 != 0) = false := bne_eq_false_iff_eq.mpr c10
   clear c10
   have H' := Aside0.mk H
   clear H
   go_enter Try.func5, Try.ntmps5
   try go_wp2_with (first | ((with_reducible refine gate_dst (N := 4) rfl ?_); (try (refine gate_guard (by rfl) ?_; dsimp only)); refine box_event ?hg (N := 4) ?hd (cs := #[.slice A0_0 l0_0.length c0_0, .slice A0_1 l0_1.length c0_1]) (t := 25) ?hr ?_; (case hd => rfl); (case hg => rfl); (case hr => first | (go_simp; done) | (go_simp; rfl)); intro gb409 hg w11 hbox hb; have n0_ := Aside0.mk (below_step (bb_ HB) hb); have n1_ := Aside0.mk (hbox); have n2_ := Aside0.mk ((by rw [hg]; exact (below_size (bb_ HB)) : w.heap.size ≤ gb409)); have n3_ := Aside0.mk ((by rw [hg]; exact (below_size (bb_ HB)) : w.heap.size ≤ gb409)); clear HB; have HB := n0_; have BK409 := n1_; have GW409 := n2_; have GE409 := n3_; clear n0_ n1_ n2_ n3_; clear hb hbox hg) | ((with_reducible refine gate_callee (f := 10) rfl ?_); refine gl_ (some 20) Try.func10 #[] ?_; (with_reducible refine (cohousinglaw26_head.calls k  t410 _ A5.out).mono ?_); rintro e w12 ⟨rfl, hb⟩; refine ⟨_, rfl, ?_⟩; have n0_ := Aside0.mk (blk_below (g := gb409) (o := .cells #[.slice A0_0 l0_0.length c0_0, .slice A0_1 l0_1.length c0_1] 25 (0, 0)) (kk_ BK409) hb); have n1_ := Aside0.mk (below_step (bs_ HB GE409.out) hb); clear BK409; clear HB; have BK409 := n0_; have HB := n1_; clear n0_ n1_; (try clear hb); (try clear hb2); (try clear hk); (try clear hi); have hcz13_0 : w12.cell? ⟨gb409, 0, none⟩ = some (.slice A0_0 l0_0.length c0_0) := (blk_cell BK409.out 0).trans rfl; have hcz13_1 : w12.cell? ⟨gb409, 1, none⟩ = some (.slice A0_1 l0_1.length c0_1) := (blk_cell BK409.out 1).trans rfl; have hfz13_0 := blk_frozen BK409.out 0; have hfz13_1 := blk_frozen BK409.out 1) | ((with_reducible refine gate_callee (f := 20) rfl ?_); refine gl_ (some 24) Try.func20 #[.agg #[.slice A0_0 l0_0.length c0_0, .slice A0_1 l0_1.length c0_1], .slice A1 l1.length c1, .slice A3 l3.length c3] ?_; (with_reducible refine (cohousinglaw26_usable.calls k _ _ l0_0 _ _ l0_1 _ _ l1 _ _ l3 true _ ?side1 ?side2 ?side3 ?side4 ?side5 ?side6 ?side7 ?side8 A6.out).mono ?_); (case side1 => exact cc_ ((Kd.C_below HR0_0.out HB.out))); (case side2 => exact HC0_0.out); (case side3 => exact cc_ ((Kd.C_below HR0_1.out HB.out))); (case side4 => exact HC0_1.out); (case side5 => exact cc_ ((Kd.C_below HR1.out HB.out))); (case side6 => exact HC1.out); (case side7 => exact cc_ ((Kd.C_below HR3.out HB.out))); (case side8 => exact HC3.out); rintro e w14 ⟨rfl, hb⟩; refine ⟨_, rfl, ?_⟩; have n0_ := Aside0.mk (blk_below (g := gb409) (o := .cells #[.slice A0_0 l0_0.length c0_0, .slice A0_1 l0_1.length c0_1] 25 (0, 0)) (kk_ BK409) hb); have n1_ := Aside0.mk (below_step (bs_ HB GE409.out) hb); clear BK409; clear HB; have BK409 := n0_; have HB := n1_; clear n0_ n1_; (try clear hb); (try clear hb2); (try clear hk); (try clear hi)))
   have n0_ := Aside0.mk (blk_drew BK409.out)
   have n1_ := Aside0.mk (below_drew1 HB.out)
   clear BK409
   clear HB
   have BK409 := n0_
   have HB := n1_
   clear n0_ n1_
   refine start_ (n := 13) (S := fun w' => w'.cell? ⟨gb409, 0, none⟩ = some (.slice A0_0 l0_0.length c0_0) ∧ w'.cell? ⟨gb409, 1, none⟩ = some (.slice A0_1 l0_1.length c0_1)) (ds := []) #[n_, n_, n_, n_, n_, n_, n_, n_, n_, n_, n_, n_, n_] (by kernel_rfl) rfl rfl ⟨(blk_cell BK409.out 0).trans rfl, (blk_cell BK409.out 1).trans rfl⟩ (fun hHeld => ?_); refine with_tabW cohousinglaw26_ChainAgreement.tab4 cohousinglaw26_ChainAgreement.bits4 (fun HT_ HW_ => ?_)
   generalize w14.drew = w15 at BK409 HB hHeld ⊢
   refine pu_ 1 29 (w_ 13 2) rfl HT_ ?_
   refine pu_ 2 30 (w_ 13 6) rfl HT_ ?_
   refine pu_ 4 32 (w_ 13 22) rfl HT_ ?_
   refine ta_ 0 28 (w_ 13 23) rfl HT_ HW_ hHeld (by rintro w' ⟨s0, s1⟩; go_simp; with_reducible rfl) ?_
   refine one_ (i := 3) (N := some 31) (w_ 13 31) rfl rfl (one_of HT_.out (by kernel_rfl)) (by decide) (fun K hK => ?_)
   refine goes_ Try.func21 (by kernel_rfl) rfl #[.int .u16 a2] (by rfl) rfl rfl (by (try simp only [List.map_toArray, List.map_cons, List.map_nil]); first | done | rfl | (simp only [List.length_drop, List.length_take]; rfl)) ?_
   with_reducible refine (cohousinglaw26_on.calls a2 t412 _ A8.out).mono ?_
   rintro e w' ⟨rfl, ⟨nd, rfl⟩⟩
   refine ⟨_, rfl, ?_⟩
   refine hK.out _ _ ⟨(blk_cell BK409.out 0).trans rfl, (blk_cell BK409.out 1).trans rfl⟩ (fun hHeld => ?_)
   clear hK K
   refine norm_ (a' := ?_) ?_ ?_
   rotate_left
   ·show Act.put _ (some 31) _ = _
    simp only [Act.put, sI_, s0_, sS_, i64_w, i32_w]
    rfl
   refine one_ (i := 5) (N := some 33) (w_ 13 63) rfl rfl (one_of HT_.out (by kernel_rfl)) (by decide) (fun K hK => ?_)
   refine goes_ Try.func13 (by kernel_rfl) rfl #[.agg #[.slice A0_0 l0_0.length c0_0, .slice A0_1 l0_1.length c0_1], .slice A1 l1.length c1, .int .i64 t412, .slice A3 l3.length c3] (by rfl) rfl rfl (by (try simp only [List.map_toArray, List.map_cons, List.map_nil]); first | done | rfl | (simp only [List.length_drop, List.length_take]; rfl)) ?_
   with_reducible refine (chain_Run.calls _ _ l0_0 _ _ l0_1 _ _ l1 t412 _ _ l3 t413 t416 t419 _ ?side1 ?side2 ?side3 ?side4 ?side5 ?side6 ?side7 ?side8 A9.out).mono ?_
   (case side1 => exact cc_ ((Kd.C_below HR0_0.out (bs_ HB GE409.out))))
   (case side2 => exact HC0_0.out)
   (case side3 => exact cc_ ((Kd.C_below HR0_1.out (bs_ HB GE409.out))))
   (case side4 => exact HC0_1.out)
   (case side5 => exact cc_ ((Kd.C_below HR1.out (bs_ HB GE409.out))))
   (case side6 => exact HC1.out)
   (case side7 => exact cc_ ((Kd.C_below HR3.out (bs_ HB GE409.out))))
   (case side8 => exact HC3.out)
   rintro e w16 ⟨v414, v417, rfl, ho0, ho1, hb⟩
   refine ⟨_, rfl, ?_⟩
   have n0_ := Aside0.mk (Kd.R_lower ho0 (below_size (bs_ HB GE409.out)))
   have n1_ := Aside0.mk (Kd.R_lower ho1 (below_size (bs_ HB GE409.out)))
   have n2_ := Aside0.mk (blk_below (g := gb409) (o := .cells #[.slice A0_0 l0_0.length c0_0, .slice A0_1 l0_1.length c0_1] 25 (0, 0)) (kk_ BK409) hb)
   have n3_ := Aside0.mk (below_step (bs_ HB GE409.out) hb)
   clear BK409
   clear HB
   have HO415 := n0_
   have HO418 := n1_
   have BK409 := n2_
   have HB := n3_
   clear n0_ n1_ n2_ n3_
   (try clear hb)
   (try clear hb2)
   (try clear hk)
   (try clear hi)
   (try clear ho0)
   (try clear ho1)
   refine hK.out _ _ ⟨(blk_cell BK409.out 0).trans rfl, (blk_cell BK409.out 1).trans rfl⟩ (fun hHeld => ?_)
   clear hK K
   refine norm_ (a' := ?_) ?_ ?_
   rotate_left
   ·show Act.put _ (some 33) _ = _
    simp only [Act.put, sI_, s0_, sS_, i64_w, i32_w]
    rfl
   refine pu_ 6 27 (w_ 13 127) rfl HT_ ?_
   refine pu_ 7 34 (w_ 13 255) rfl HT_ ?_
   refine pu_ 8 35 (w_ 13 511) rfl HT_ ?_
   refine pu_ 9 36 (w_ 13 1023) rfl HT_ ?_
   refine pu_ 10 10 (w_ 13 2047) rfl HT_ ?_
   refine pu_ 11 11 (w_ 13 4095) rfl HT_ ?_
   refine pu_ 12 12 (w_ 13 8191) rfl HT_ ?_
   refine done_ (done_of HT_.out (by kernel_rfl)) ?_
   try go_wp2
   go_loopg [13, 14] k (fun kq v13 v14 w' => ∃ (x13_1 : Int) (x14_1 : Int), v13 = .int .i64 x13_1 ∧ v14 = .int .i64 x14_1 ∧ Aside0 (cohousinglaw26_ChainAgreement.l0 kq l1 a2 l3 t410 t413 t416 x13_1 x14_1 = some r) ∧ Aside0 (kq ≤ k) ∧ Aside0 (Kd.R k51 51 w' w.heap.size (fun _ => True) v414 t413) ∧ Aside0 (Kd.R (Kd.int .i64) 3 w' w.heap.size (fun _ => True) v417 t416) ∧ Aside0 (w'.heap[gb409]? = some (.cells #[(.slice A0_0 l0_0.length c0_0), (.slice A0_1 l0_1.length c0_1)] 25 (0, 0))) ∧ Aside0 (Below w.heap.size w w'))
   case atStart => exact ⟨(0), (0), sd_, sd_, H', ⟨Nat.le_refl _⟩, ⟨by (with_reducible repeat (first | apply Kd.R_alloc | apply Kd.R_drewN | apply Kd.R_drew)); exact HO415.out⟩, ⟨by (with_reducible repeat (first | apply Kd.R_alloc | apply Kd.R_drewN | apply Kd.R_drew)); exact HO418.out⟩, ⟨by (with_reducible repeat (first | refine blk_drewN ?_ _ | refine blk_drew ?_ | refine blk_alloc ?_ _)); exact BK409.out⟩, ⟨by repeat (first | (with_reducible first | exact HB.out | apply below_alloc | apply pw_below_drewN | apply below_drew1 | refine below_set ?_ GE409.out) | exact HB.out)⟩⟩
   case round =>
    clear H'
    try clear c1
    try clear c2
    try clear p2
    try clear c3
    try clear c5
    try clear c7
    try clear c10
    try clear c10b0
    try clear c10b1
    try clear c13
    try clear hcz13_0
    try clear hcz13_1
    try clear hfz13_0
    try clear hfz13_1
    obtain ⟨x13_1, x14_1, rfl, rfl, HA, HK1, HO_10, HO_11, BK409, HB⟩ := hrel
    cases gk with
    | zero => exact absurd HA.out (by simp [cohousinglaw26_ChainAgreement.l0])
    | succ k1 =>
     have H := HA.out
     clear HA
     simp only [cohousinglaw26_ChainAgreement.l0] at H
     by_cases c17 : x14_1 < (l1.length : Int)
     ·rw [if_pos c17] at H
      have c17b0 : decide (x14_1 < (l1.length : Int)) = true := decide_eq_true c17
      clear c17
      have H' := Aside0.mk H
      clear H
      go_wp2
      go_loopg [13, 15, 16, 17] k1 (fun kq v13 v15 v16 v17 w' => ∃ (x13_2 : Int) (x15_2 : Int) (x16_2 : Bool) (x17_2 : Int), v13 = .int .i64 x13_2 ∧ v15 = .int .i64 x15_2 ∧ v16 = .bool x16_2 ∧ v17 = .int .i64 x17_2 ∧ Aside0 (cohousinglaw26_ChainAgreement.l1 kq l1 a2 l3 t410 t413 t416 x13_2 x14_1 x15_2 x16_2 x17_2 = some r) ∧ Aside0 (kq ≤ k1) ∧ Aside0 (Kd.R k51 51 w' w.heap.size (fun _ => True) v414 t413) ∧ Aside0 (Kd.R (Kd.int .i64) 3 w' w.heap.size (fun _ => True) v417 t416) ∧ Aside0 (w'.heap[gb409]? = some (.cells #[(.slice A0_0 l0_0.length c0_0), (.slice A0_1 l0_1.length c0_1)] 25 (0, 0))) ∧ Aside0 (Below w.heap.size w w'))
      case atStart => exact ⟨(x13_1), (0), (true), (0), sd_, sd_, sd_, sd_, H', ⟨Nat.le_refl _⟩, ⟨by (with_reducible repeat (first | apply Kd.R_alloc | apply Kd.R_drewN | apply Kd.R_drew)); exact HO_10.out⟩, ⟨by (with_reducible repeat (first | apply Kd.R_alloc | apply Kd.R_drewN | apply Kd.R_drew)); exact HO_11.out⟩, ⟨by (with_reducible repeat (first | refine blk_drewN ?_ _ | refine blk_drew ?_ | refine blk_alloc ?_ _)); exact BK409.out⟩, ⟨by repeat (first | (with_reducible first | exact HB.out | apply below_alloc | apply pw_below_drewN | apply below_drew1 | refine below_set ?_ GE409.out) | exact HB.out)⟩⟩
      case round =>
       clear H'
       try clear c1
       try clear c2
       try clear p2
       try clear c3
       try clear c5
       try clear c7
       try clear c10
       try clear c10b0
       try clear c10b1
       try clear c13
       try clear c17
       try clear c17b0
       try clear hcz13_0
       try clear hcz13_1
       try clear hfz13_0
       try clear hfz13_1
       try clear p2
       obtain ⟨x13_2, x15_2, x16_2, x17_2, rfl, rfl, rfl, rfl, HA, HK2, HO_10, HO_11, BK409, HB⟩ := hrel
       cases gk with
       | zero => exact absurd HA.out (by simp [cohousinglaw26_ChainAgreement.l1])
       | succ k2 =>
        have H := HA.out
        clear HA
        simp only [cohousinglaw26_ChainAgreement.l1] at H
        by_cases c18 : 0 ≤ x14_1
        ·rw [if_pos c18] at H
         have c18b0 : decide (0 ≤ x14_1) = true := decide_eq_true c18
         clear c18
         by_cases c19 : x14_1 < (l1.length : Int)
         ·rw [if_pos c19] at H
          have c19b0 : decide (x14_1 < (l1.length : Int)) = true := decide_eq_true c19
          clear c19
          by_cases c20 : x17_2 < (((rd_T49 l1 x14_1).f1).length : Int)
          ·rw [if_pos c20] at H
           have c20b0 : decide (x17_2 < (((rd_T49 l1 x14_1).f1).length : Int)) = true := decide_eq_true c20
           clear c20
           by_cases c21 : 0 ≤ x17_2
           ·rw [if_pos c21] at H
            have c21b0 : decide (0 ≤ x17_2) = true := decide_eq_true c21
            clear c21
            replace H := Option.bind_eq_some_iff.mp H
            obtain ⟨t435, A220, H⟩ := H
            replace H : ((cohousingref26_Agrees.f k2 l3 ((rd_T51 ((rd_T49 l1 x14_1).f1) x17_2).f0) t435).bind fun t436 => (if x16_2 = true then (cohousinglaw26_ChainAgreement.j2 k2 l1 a2 l3 t410 t413 t416 x13_2 x14_1 x15_2 t436 x17_2 t436 ((rd_T51 ((rd_T49 l1 x14_1).f1) x17_2).f0) ((rd_T51 ((rd_T49 l1 x14_1).f1) x17_2).f1) ((rd_T51 ((rd_T49 l1 x14_1).f1) x17_2).f2)) else (cohousinglaw26_ChainAgreement.j2 k2 l1 a2 l3 t410 t413 t416 x13_2 x14_1 x15_2 false x17_2 t436 ((rd_T51 ((rd_T49 l1 x14_1).f1) x17_2).f0) ((rd_T51 ((rd_T49 l1 x14_1).f1) x17_2).f1) ((rd_T51 ((rd_T49 l1 x14_1).f1) x17_2).f2)))) = some r := H
            have A22 := Aside0.mk A220
            clear A220
            replace H := Option.bind_eq_some_iff.mp H
            obtain ⟨t436, A230, H⟩ := H
            replace H : (if x16_2 = true then (cohousinglaw26_ChainAgreement.j2 k2 l1 a2 l3 t410 t413 t416 x13_2 x14_1 x15_2 t436 x17_2 t436 ((rd_T51 ((rd_T49 l1 x14_1).f1) x17_2).f0) ((rd_T51 ((rd_T49 l1 x14_1).f1) x17_2).f1) ((rd_T51 ((rd_T49 l1 x14_1).f1) x17_2).f2)) else (cohousinglaw26_ChainAgreement.j2 k2 l1 a2 l3 t410 t413 t416 x13_2 x14_1 x15_2 false x17_2 t436 ((rd_T51 ((rd_T49 l1 x14_1).f1) x17_2).f0) ((rd_T51 ((rd_T49 l1 x14_1).f1) x17_2).f1) ((rd_T51 ((rd_T49 l1 x14_1).f1) x17_2).f2))) = some r := H
            have A23 := Aside0.mk A230
            clear A230
            have HC24 := Aside0.mk H
            clear H
            have p420 : 0 ≤ (x14_1 : Int) := od_
            have q420 : x14_1 < (l1.length : Int) := od_
            obtain ⟨ad420, A420_1, c420_1, e420, hx420_0, hx420_1, hl420_1, hi420_1⟩ := at_T49 HR1.out x14_1 p420 q420
            cases e420
            replace hx420_0 := (HB.out.cell (World.block_lt_of_cell? w _ hx420_0)).trans hx420_0
            replace hx420_1 := (HB.out.cell (World.block_lt_of_cell? w _ hx420_1)).trans hx420_1
            have HR420_1 := Aside0.mk hi420_1
            have HC420_1 := Aside0.mk hl420_1
            clear hi420_1 hl420_1
            replace p420 := eq_true p420
            replace q420 := eq_true q420
            have p432 : 0 ≤ (x14_1 : Int) := od_
            have q432 : x14_1 < (l1.length : Int) := od_
            obtain ⟨ad432, A432_1, c432_1, e432, hx432_0, hx432_1, hl432_1, hi432_1⟩ := at_T49 HR1.out x14_1 p432 q432
            obtain rfl : ad420 = ad432 := (by injection e432)
            replace hx432_0 := (HB.out.cell (World.block_lt_of_cell? w _ hx432_0)).trans hx432_0
            replace hx432_1 := (HB.out.cell (World.block_lt_of_cell? w _ hx432_1)).trans hx432_1
            have HR432_1 := Aside0.mk hi432_1
            have HC432_1 := Aside0.mk hl432_1
            clear hi432_1 hl432_1
            replace p432 := eq_true p432
            replace q432 := eq_true q432
            have ea_ := Option.some.inj (hx420_1.symm.trans hx432_1)
            injection ea_ with ea_ en_ ec_
            subst ea_
            subst ec_
            clear en_
            have p433 : 0 ≤ (x17_2 : Int) := od_
            have q433 : x17_2 < (((rd_T49 l1 x14_1).f1).length : Int) := od_
            obtain ⟨ad433, e433, hx433_0, hx433_1, hx433_2⟩ := at_T51 HR432_1.out x17_2 p433 q433
            cases e433
            replace hx433_0 := (HB.out.cell (World.block_lt_of_cell? w _ hx433_0)).trans hx433_0
            replace hx433_1 := (HB.out.cell (World.block_lt_of_cell? w _ hx433_1)).trans hx433_1
            replace hx433_2 := (HB.out.cell (World.block_lt_of_cell? w _ hx433_2)).trans hx433_2
            replace p433 := eq_true p433
            replace q433 := eq_true q433
            try go_wp2_with (first | ((with_reducible refine gate_dst (N := 18) rfl ?_); (try (refine gate_guard (by rfl) ?_; dsimp only)); refine box_event ?hg (N := 18) ?hd (cs := #[.int .i64 0, .int .i64 0, .int .i64 0]) (t := 51) ?hr ?_; (case hd => rfl); (case hg => rfl); (case hr => first | (go_simp; done) | (go_simp; rfl)); intro gb434 hg w25 hbox hb; have n0_ := Aside0.mk (Kd.R_below (Kd.R_elderB (rr_ HO_10) gb434 (Nat.le_of_eq hg.symm)) hb); have n1_ := Aside0.mk (Kd.R_below (rr_ HO_11) hb); have n2_ := Aside0.mk (blk_below (g := gb409) (o := .cells #[.slice A0_0 l0_0.length c0_0, .slice A0_1 l0_1.length c0_1] 25 (0, 0)) (kk_ BK409) hb); have n3_ := Aside0.mk (below_step (bs_ HB GE409.out) hb); have n4_ := Aside0.mk (hbox); have n5_ := Aside0.mk ((by rw [hg]; exact (below_size (bs_ HB GE409.out)) : w.heap.size ≤ gb434)); have n6_ := Aside0.mk ((by rw [hg]; exact (below_size (bs_ HB GE409.out)) : w.heap.size ≤ gb434)); have n7_ := Aside0.mk ((by rw [hg]; exact Nat.ne_of_lt (blk_lt (g := gb409) (o := .cells #[.slice A0_0 l0_0.length c0_0, .slice A0_1 l0_1.length c0_1] 25 (0, 0)) (kk_ BK409)) : gb409 ≠ gb434)); have n8_ := Aside0.mk ((by rw [hg]; exact Nat.ne_of_gt (blk_lt (g := gb409) (o := .cells #[.slice A0_0 l0_0.length c0_0, .slice A0_1 l0_1.length c0_1] 25 (0, 0)) (kk_ BK409)) : gb434 ≠ gb409)); clear HO_10; clear HO_11; clear BK409; clear HB; have HO_10 := n0_; have HO_11 := n1_; have BK409 := n2_; have HB := n3_; have BK434 := n4_; have GW434 := n5_; have GE434 := n6_; have NB409_434 := n7_; have NB434_409 := n8_; clear n0_ n1_ n2_ n3_ n4_ n5_ n6_ n7_ n8_; clear hb hbox hg; have hnb26 := NB434_409.out; have hnc26 := NB409_434.out; have hcz27_0 : w25.cell? ⟨gb434, 0, none⟩ = some (.int .i64 0) := (blk_cell BK434.out 0).trans rfl; have hcz27_1 : w25.cell? ⟨gb434, 1, none⟩ = some (.int .i64 0) := (blk_cell BK434.out 1).trans rfl; have hcz27_2 : w25.cell? ⟨gb434, 2, none⟩ = some (.int .i64 0) := (blk_cell BK434.out 2).trans rfl; have hfz27_0 := blk_frozen BK434.out 0; have hfz27_1 := blk_frozen BK434.out 1; have hfz27_2 := blk_frozen BK434.out 2))
            have n0_ : Aside0 (Kd.R k51 51 (((w25.setCell ⟨gb434, 0, none⟩ (.int .i64 ((rd_T51 ((rd_T49 l1 x14_1).f1) x17_2).f0))).setCell ⟨gb434, 1, none⟩ (.int .i64 ((rd_T51 ((rd_T49 l1 x14_1).f1) x17_2).f1))).setCell ⟨gb434, 2, none⟩ (.int .i64 ((rd_T51 ((rd_T49 l1 x14_1).f1) x17_2).f2))) w.heap.size (fun k_ => k_ ≠ gb434) v414 t413) := ⟨by (with_reducible repeat (first | apply Kd.R_alloc | apply Kd.R_drewN | apply Kd.R_drew)); exact Kd.R_mono (Kd.R_far (p := ⟨gb434, 2, none⟩) (Kd.R_far (p := ⟨gb434, 1, none⟩) (Kd.R_far (p := ⟨gb434, 0, none⟩) (Kd.R_mono HO_10.out (fun k_ hk => (⟨hk, hk.2⟩ : _ ∧ k_ ≠ gb434))) (fun _ hk => hk.2) (.int .i64 ((rd_T51 ((rd_T49 l1 x14_1).f1) x17_2).f0))) (fun _ hk => hk.2) (.int .i64 ((rd_T51 ((rd_T49 l1 x14_1).f1) x17_2).f1))) (fun _ hk => hk.2) (.int .i64 ((rd_T51 ((rd_T49 l1 x14_1).f1) x17_2).f2))) (fun _ hk => hk.1.2)⟩
            have n1_ : Aside0 (Kd.R (Kd.int .i64) 3 (((w25.setCell ⟨gb434, 0, none⟩ (.int .i64 ((rd_T51 ((rd_T49 l1 x14_1).f1) x17_2).f0))).setCell ⟨gb434, 1, none⟩ (.int .i64 ((rd_T51 ((rd_T49 l1 x14_1).f1) x17_2).f1))).setCell ⟨gb434, 2, none⟩ (.int .i64 ((rd_T51 ((rd_T49 l1 x14_1).f1) x17_2).f2))) w.heap.size (fun _ => True) v417 t416) := ⟨by (with_reducible repeat (first | apply Kd.R_alloc | apply Kd.R_drewN | apply Kd.R_drew)); exact Kd.R_mono (Kd.R_far (p := ⟨gb434, 2, none⟩) (Kd.R_far (p := ⟨gb434, 1, none⟩) (Kd.R_far (p := ⟨gb434, 0, none⟩) (Kd.R_types HO_11.out BK434.out (by decide)) (fun _ hk => hk.2) (.int .i64 ((rd_T51 ((rd_T49 l1 x14_1).f1) x17_2).f0))) (fun _ hk => hk.2) (.int .i64 ((rd_T51 ((rd_T49 l1 x14_1).f1) x17_2).f1))) (fun _ hk => hk.2) (.int .i64 ((rd_T51 ((rd_T49 l1 x14_1).f1) x17_2).f2))) (fun _ hk => trivial)⟩
            have n2_ : Aside0 ((((w25.setCell ⟨gb434, 0, none⟩ (.int .i64 ((rd_T51 ((rd_T49 l1 x14_1).f1) x17_2).f0))).setCell ⟨gb434, 1, none⟩ (.int .i64 ((rd_T51 ((rd_T49 l1 x14_1).f1) x17_2).f1))).setCell ⟨gb434, 2, none⟩ (.int .i64 ((rd_T51 ((rd_T49 l1 x14_1).f1) x17_2).f2))).heap[gb409]? = some (.cells #[.slice A0_0 l0_0.length c0_0, .slice A0_1 l0_1.length c0_1] 25 (0, 0))) := ⟨by (with_reducible repeat (first | refine blk_drewN ?_ _ | refine blk_drew ?_ | refine blk_alloc ?_ _)); refine blk_far ?_ NB409_434.out _; (with_reducible repeat (first | refine blk_drewN ?_ _ | refine blk_drew ?_ | refine blk_alloc ?_ _)); refine blk_far ?_ NB409_434.out _; (with_reducible repeat (first | refine blk_drewN ?_ _ | refine blk_drew ?_ | refine blk_alloc ?_ _)); refine blk_far ?_ NB409_434.out _; (with_reducible repeat (first | refine blk_drewN ?_ _ | refine blk_drew ?_ | refine blk_alloc ?_ _)); exact BK409.out⟩
            have n3_ : Aside0 ((((w25.setCell ⟨gb434, 0, none⟩ (.int .i64 ((rd_T51 ((rd_T49 l1 x14_1).f1) x17_2).f0))).setCell ⟨gb434, 1, none⟩ (.int .i64 ((rd_T51 ((rd_T49 l1 x14_1).f1) x17_2).f1))).setCell ⟨gb434, 2, none⟩ (.int .i64 ((rd_T51 ((rd_T49 l1 x14_1).f1) x17_2).f2))).heap[gb434]? = some (.cells #[.int .i64 ((rd_T51 ((rd_T49 l1 x14_1).f1) x17_2).f0), .int .i64 ((rd_T51 ((rd_T49 l1 x14_1).f1) x17_2).f1), .int .i64 ((rd_T51 ((rd_T49 l1 x14_1).f1) x17_2).f2)] 51 (0, 0))) := ⟨by (with_reducible repeat (first | refine blk_drewN ?_ _ | refine blk_drew ?_ | refine blk_alloc ?_ _)); refine blk_put (cs := #[.int .i64 ((rd_T51 ((rd_T49 l1 x14_1).f1) x17_2).f0), .int .i64 ((rd_T51 ((rd_T49 l1 x14_1).f1) x17_2).f1), .int .i64 0]) ?_ 2 _ rfl; (with_reducible repeat (first | refine blk_drewN ?_ _ | refine blk_drew ?_ | refine blk_alloc ?_ _)); refine blk_put (cs := #[.int .i64 ((rd_T51 ((rd_T49 l1 x14_1).f1) x17_2).f0), .int .i64 0, .int .i64 0]) ?_ 1 _ rfl; (with_reducible repeat (first | refine blk_drewN ?_ _ | refine blk_drew ?_ | refine blk_alloc ?_ _)); refine blk_put (cs := #[.int .i64 0, .int .i64 0, .int .i64 0]) ?_ 0 _ rfl; (with_reducible repeat (first | refine blk_drewN ?_ _ | refine blk_drew ?_ | refine blk_alloc ?_ _)); exact BK434.out⟩
            have n4_ : Aside0 (Below w.heap.size w (((w25.setCell ⟨gb434, 0, none⟩ (.int .i64 ((rd_T51 ((rd_T49 l1 x14_1).f1) x17_2).f0))).setCell ⟨gb434, 1, none⟩ (.int .i64 ((rd_T51 ((rd_T49 l1 x14_1).f1) x17_2).f1))).setCell ⟨gb434, 2, none⟩ (.int .i64 ((rd_T51 ((rd_T49 l1 x14_1).f1) x17_2).f2)))) := ⟨by repeat (first | (with_reducible first | exact HB.out | apply below_alloc | apply pw_below_drewN | apply below_drew1 | refine below_set ?_ GE409.out | refine below_set ?_ GE434.out) | exact HB.out)⟩
            (try clear HO_10)
            (try clear HO_11)
            (try clear BK409)
            (try clear BK434)
            (try clear HB)
            generalize (((w25.setCell ⟨gb434, 0, none⟩ (.int .i64 ((rd_T51 ((rd_T49 l1 x14_1).f1) x17_2).f0))).setCell ⟨gb434, 1, none⟩ (.int .i64 ((rd_T51 ((rd_T49 l1 x14_1).f1) x17_2).f1))).setCell ⟨gb434, 2, none⟩ (.int .i64 ((rd_T51 ((rd_T49 l1 x14_1).f1) x17_2).f2))) = w28 at n0_ n1_ n2_ n3_ n4_ ⊢
            have HO_10 := n0_
            have HO_11 := n1_
            have BK409 := n2_
            have BK434 := n3_
            have HB := n4_
            clear n0_ n1_ n2_ n3_ n4_
            have n0_ := Aside0.mk (Kd.R_drew HO_10.out)
            have n1_ := Aside0.mk (Kd.R_drew HO_11.out)
            have n2_ := Aside0.mk (blk_drew BK409.out)
            have n3_ := Aside0.mk (blk_drew BK434.out)
            have n4_ := Aside0.mk (below_drew1 HB.out)
            clear HO_10
            clear HO_11
            clear BK409
            clear BK434
            clear HB
            have HO_10 := n0_
            have HO_11 := n1_
            have BK409 := n2_
            have BK434 := n3_
            have HB := n4_
            clear n0_ n1_ n2_ n3_ n4_
            refine start_ (n := 7) (S := fun w' => w'.cell? ⟨gb434, 0, none⟩ = some (.int .i64 ((rd_T51 ((rd_T49 l1 x14_1).f1) x17_2).f0)) ∧ w'.cell? ⟨gb434, 1, none⟩ = some (.int .i64 ((rd_T51 ((rd_T49 l1 x14_1).f1) x17_2).f1)) ∧ w'.cell? ⟨gb434, 2, none⟩ = some (.int .i64 ((rd_T51 ((rd_T49 l1 x14_1).f1) x17_2).f2))) (ds := []) #[n_, n_, n_, n_, n_, n_, n_] (by kernel_rfl) rfl rfl ⟨(blk_cell BK434.out 0).trans rfl, (blk_cell BK434.out 1).trans rfl, (blk_cell BK434.out 2).trans rfl⟩ (fun hHeld => ?_)
            generalize w28.drew = w29 at HO_10 HO_11 BK409 BK434 HB hHeld ⊢
            refine pv_ 0 63 (w_ 7 1) rfl ?_
            refine pv_ 1 64 (w_ 7 3) rfl ?_
            refine pv_ 3 66 (w_ 7 11) rfl ?_
            refine tb_ 2 65 (w_ 7 15) rfl hHeld (by rintro w' ⟨s0, s1, s2⟩; go_simp; with_reducible rfl) ?_
            refine one_ (i := 4) (N := some 67) (w_ 7 31) rfl rfl (by kernel_rfl) (by decide) (fun K hK => ?_)
            refine goes_ Try.func21 (by kernel_rfl) rfl #[.int .u16 a2] (by rfl) rfl rfl (by (try simp only [List.map_toArray, List.map_cons, List.map_nil]); first | done | rfl | (simp only [List.length_drop, List.length_take]; rfl)) ?_
            with_reducible refine (cohousinglaw26_on.calls a2 t435 _ A22.out).mono ?_
            rintro e w' ⟨rfl, ⟨nd, rfl⟩⟩
            refine ⟨_, rfl, ?_⟩
            refine hK.out _ _ ⟨(blk_cell BK434.out 0).trans rfl, (blk_cell BK434.out 1).trans rfl, (blk_cell BK434.out 2).trans rfl⟩ (fun hHeld => ?_)
            clear hK K
            refine norm_ (a' := ?_) ?_ ?_
            rotate_left
            ·show Act.put _ (some 67) _ = _
             simp only [Act.put, sI_, s0_, sS_, i64_w, i32_w]
             rfl
            refine one_ (i := 5) (N := some 68) (w_ 7 63) rfl rfl (by kernel_rfl) (by decide) (fun K hK => ?_)
            refine goes_ Try.func23 (by kernel_rfl) rfl #[.slice A3 l3.length c3, .int .i64 ((rd_T51 ((rd_T49 l1 x14_1).f1) x17_2).f0), .int .i64 t435] (by rfl) rfl rfl (by (try simp only [List.map_toArray, List.map_cons, List.map_nil]); first | done | rfl | (simp only [List.length_drop, List.length_take]; rfl)) ?_
            with_reducible refine (cohousingref26_Agrees.calls k2 _ _ l3 ((rd_T51 ((rd_T49 l1 x14_1).f1) x17_2).f0) t435 t436 _ ?side1 ?side2 A23.out).mono ?_
            (case side1 => repeat (first | exact (Kd.C_below HR3.out (by repeat (first | (with_reducible first | exact HB.out | apply below_alloc | apply pw_below_drewN | apply below_drew1 | refine below_set ?_ GE409.out | refine below_set ?_ GE434.out) | exact HB.out))) | (with_reducible refine Kd.C_alloc ?_ _) | (with_reducible refine Kd.C_drewN ?_ _) | (with_reducible refine Kd.C_drew ?_)))
            (case side2 => exact HC3.out)
            rintro e w' ⟨rfl, ⟨nd, rfl⟩⟩
            refine ⟨_, rfl, ?_⟩
            refine hK.out _ _ ⟨(blk_cell BK434.out 0).trans rfl, (blk_cell BK434.out 1).trans rfl, (blk_cell BK434.out 2).trans rfl⟩ (fun hHeld => ?_)
            clear hK K
            refine norm_ (a' := ?_) ?_ ?_
            rotate_left
            ·show Act.put _ (some 68) _ = _
             simp only [Act.put, sI_, s0_, sS_, i64_w, i32_w]
             rfl
            refine pv_ 6 19 (w_ 7 127) rfl ?_
            refine done_ (by kernel_rfl) ?_
            go_upto_region 18 with (fail)
            go_cut [16] (fun v16 wc => ∃ (kq : Nat) (x16_23 : Bool), v16 = .bool x16_23 ∧ Aside0 (cohousinglaw26_ChainAgreement.j2 kq l1 a2 l3 t410 t413 t416 x13_2 x14_1 x15_2 x16_23 x17_2 t436 ((rd_T51 ((rd_T49 l1 x14_1).f1) x17_2).f0) ((rd_T51 ((rd_T49 l1 x14_1).f1) x17_2).f1) ((rd_T51 ((rd_T49 l1 x14_1).f1) x17_2).f2) = some r) ∧ Aside0 (kq ≤ k2) ∧ Aside0 (Kd.R k51 51 wc w.heap.size (fun k_ => k_ ≠ gb434) v414 t413) ∧ Aside0 (Kd.R (Kd.int .i64) 3 wc w.heap.size (fun _ => True) v417 t416) ∧ Aside0 (wc.heap[gb409]? = some (.cells #[(.slice A0_0 l0_0.length c0_0), (.slice A0_1 l0_1.length c0_1)] 25 (0, 0))) ∧ Aside0 (wc.heap[gb434]? = some (.cells #[.int .i64 ((rd_T51 ((rd_T49 l1 x14_1).f1) x17_2).f0), .int .i64 ((rd_T51 ((rd_T49 l1 x14_1).f1) x17_2).f1), .int .i64 ((rd_T51 ((rd_T49 l1 x14_1).f1) x17_2).f2)] 51 (0, 0))) ∧ Aside0 (Below w.heap.size w wc))
            case first =>
             have H := HC24.out
             clear HC24
             by_cases c30 : x16_2 = true
             ·subst c30
              have H1 : (cohousinglaw26_ChainAgreement.j2 k2 l1 a2 l3 t410 t413 t416 x13_2 x14_1 x15_2 t436 x17_2 t436 ((rd_T51 ((rd_T49 l1 x14_1).f1) x17_2).f0) ((rd_T51 ((rd_T49 l1 x14_1).f1) x17_2).f1) ((rd_T51 ((rd_T49 l1 x14_1).f1) x17_2).f2)) = some r := by rw [if_pos rfl] at H; exact H
              clear H
              have H := H1
              clear H1
              have H' := Aside0.mk H
              clear H
              go_wp2
              go_meet
              case rel => exact ⟨_, (t436), sd_, H', ⟨by have := HK1.out; have := HK2.out; first | omega | exact Nat.le_refl _⟩, ⟨by (with_reducible repeat (first | apply Kd.R_alloc | apply Kd.R_drewN | apply Kd.R_drew)); exact HO_10.out⟩, ⟨by (with_reducible repeat (first | apply Kd.R_alloc | apply Kd.R_drewN | apply Kd.R_drew)); exact HO_11.out⟩, ⟨by (with_reducible repeat (first | refine blk_drewN ?_ _ | refine blk_drew ?_ | refine blk_alloc ?_ _)); exact BK409.out⟩, ⟨by (with_reducible repeat (first | refine blk_drewN ?_ _ | refine blk_drew ?_ | refine blk_alloc ?_ _)); exact BK434.out⟩, ⟨by repeat (first | (with_reducible first | exact HB.out | apply below_alloc | apply pw_below_drewN | apply below_drew1 | refine below_set ?_ GE409.out | refine below_set ?_ GE434.out) | exact HB.out)⟩⟩
             ·replace c30 := Bool.eq_false_iff.mpr c30
              subst c30
              have H1 : (cohousinglaw26_ChainAgreement.j2 k2 l1 a2 l3 t410 t413 t416 x13_2 x14_1 x15_2 false x17_2 t436 ((rd_T51 ((rd_T49 l1 x14_1).f1) x17_2).f0) ((rd_T51 ((rd_T49 l1 x14_1).f1) x17_2).f1) ((rd_T51 ((rd_T49 l1 x14_1).f1) x17_2).f2)) = some r := by rw [if_neg (show ¬ (false = true) by decide)] at H; exact H
              clear H
              have H := H1
              clear H1
              have H' := Aside0.mk H
              clear H
              go_wp2
              go_meet
              case rel => exact ⟨_, (false), sd_, H', ⟨by have := HK1.out; have := HK2.out; first | omega | exact Nat.le_refl _⟩, ⟨by (with_reducible repeat (first | apply Kd.R_alloc | apply Kd.R_drewN | apply Kd.R_drew)); exact HO_10.out⟩, ⟨by (with_reducible repeat (first | apply Kd.R_alloc | apply Kd.R_drewN | apply Kd.R_drew)); exact HO_11.out⟩, ⟨by (with_reducible repeat (first | refine blk_drewN ?_ _ | refine blk_drew ?_ | refine blk_alloc ?_ _)); exact BK409.out⟩, ⟨by (with_reducible repeat (first | refine blk_drewN ?_ _ | refine blk_drew ?_ | refine blk_alloc ?_ _)); exact BK434.out⟩, ⟨by repeat (first | (with_reducible first | exact HB.out | apply below_alloc | apply pw_below_drewN | apply below_drew1 | refine below_set ?_ GE409.out | refine below_set ?_ GE434.out) | exact HB.out)⟩⟩
            case rest =>
             clear HC24
             try clear c1
             try clear c2
             try clear p2
             try clear c3
             try clear c4
             try clear p4
             try clear q4
             try clear hx4
             try clear c5
             try clear c7
             try clear c10
             try clear c10b0
             try clear c10b1
             try clear c13
             try clear c17
             try clear c17b0
             try clear c18
             try clear c18b0
             try clear c19
             try clear c19b0
             try clear c20
             try clear c20b0
             try clear c21
             try clear c21b0
             try clear c23
             try clear c26
             try clear c30
             try clear hcz13_0
             try clear hcz13_1
             try clear hcz27_0
             try clear hcz27_1
             try clear hcz27_2
             try clear hfz13_0
             try clear hfz13_1
             try clear hfz27_0
             try clear hfz27_1
             try clear hfz27_2
             try clear hx420_0
             try clear hx420_1
             try clear hx432_0
             try clear hx432_1
             try clear hx433_0
             try clear hx433_1
             try clear hx433_2
             try clear p2
             try clear p420
             try clear p432
             try clear p433
             try clear q420
             try clear q432
             try clear q433
             obtain ⟨kq, x16_23, rfl, HA, HJ23, HO_10, HO_11, BK409, BK434, HB⟩ := hcut
             cases kq with
             | zero => exact absurd HA.out (by simp [cohousinglaw26_ChainAgreement.j2])
             | succ kj23 =>
              have H := HA.out
              clear HA
              simp only [cohousinglaw26_ChainAgreement.j2] at H
              have HC31 := Aside0.mk H
              clear H
              go_upto_region 19 with (fail)
              go_cut [84] (fun v84 wc => ∃ (kq : Nat) (x84_30 : Bool), v84 = .bool x84_30 ∧ Aside0 (cohousinglaw26_ChainAgreement.j3 kq l1 a2 l3 t410 t413 t416 x13_2 x14_1 x15_2 x16_23 x17_2 t436 x84_30 = some r) ∧ Aside0 (kq ≤ kj23) ∧ Aside0 (Kd.R k51 51 wc w.heap.size (fun k_ => k_ ≠ gb434) v414 t413) ∧ Aside0 (Kd.R (Kd.int .i64) 3 wc w.heap.size (fun _ => True) v417 t416) ∧ Aside0 (wc.heap[gb409]? = some (.cells #[(.slice A0_0 l0_0.length c0_0), (.slice A0_1 l0_1.length c0_1)] 25 (0, 0))) ∧ Aside0 (wc.heap[gb434]? = some (.cells #[.int .i64 ((rd_T51 ((rd_T49 l1 x14_1).f1) x17_2).f0), .int .i64 ((rd_T51 ((rd_T49 l1 x14_1).f1) x17_2).f1), .int .i64 ((rd_T51 ((rd_T49 l1 x14_1).f1) x17_2).f2)] 51 (0, 0))) ∧ Aside0 (Below w.heap.size w wc))
              case first =>
               have H := HC31.out
               clear HC31
               by_cases c32 : x13_2 < (t413.length : Int)
               ·rw [if_pos c32] at H
                have c32b0 : decide (x13_2 < (t413.length : Int)) = true := decide_eq_true c32
                clear c32
                (first | rw [c32b0] | (simp only [i64_w, i32_w]; rw [c32b0]) | skip)
                by_cases c33 : 0 ≤ x13_2
                ·rw [if_pos c33] at H
                 have c33b0 : decide (0 ≤ x13_2) = true := decide_eq_true c33
                 clear c33
                 have H' := Aside0.mk H
                 clear H
                 try go_wp2
                 have n0_ := Aside0.mk (Kd.R_drew HO_10.out)
                 have n1_ := Aside0.mk (Kd.R_drew HO_11.out)
                 have n2_ := Aside0.mk (blk_drew BK409.out)
                 have n3_ := Aside0.mk (blk_drew BK434.out)
                 have n4_ := Aside0.mk (below_drew1 HB.out)
                 clear HO_10
                 clear HO_11
                 clear BK409
                 clear BK434
                 clear HB
                 have HO_10 := n0_
                 have HO_11 := n1_
                 have BK409 := n2_
                 have BK434 := n3_
                 have HB := n4_
                 clear n0_ n1_ n2_ n3_ n4_
                 obtain ⟨Ao35, co35, eo35⟩ := Kd.R_slice HO_10.out
                 (first | subst eo35 | (injection eo35 with f1_ f2_ f3_; have f4_ := f1_.symm; have f5_ := f3_.symm; clear f1_ f2_ f3_; subst f4_; subst f5_))
                 have p437 : 0 ≤ (x13_2 : Int) := od_
                 have q437 : x13_2 < (t413.length : Int) := od_
                 obtain ⟨ad437, e437, hx437_0, hx437_1, hx437_2⟩ := at_T51 (Kd.R_reads' HO_10.out).2.2 x13_2 p437 q437
                 cases e437
                 replace p437 := eq_true p437
                 replace q437 := eq_true q437
                 refine start_ (n := 12) (S := fun w' => w'.cell? ⟨gb434, 0, none⟩ = some (.int .i64 ((rd_T51 ((rd_T49 l1 x14_1).f1) x17_2).f0)) ∧ w'.cell? ⟨gb434, 1, none⟩ = some (.int .i64 ((rd_T51 ((rd_T49 l1 x14_1).f1) x17_2).f1)) ∧ w'.cell? ⟨gb434, 2, none⟩ = some (.int .i64 ((rd_T51 ((rd_T49 l1 x14_1).f1) x17_2).f2)) ∧ w'.cell? (ad437.add ((x13_2).toNat * 3)) = some (.int .i64 ((rd_T51 t413 x13_2).f0)) ∧ w'.cell? ⟨(ad437.add ((x13_2).toNat * 3)).block, (ad437.add ((x13_2).toNat * 3)).off + 1, none⟩ = some (.int .i64 ((rd_T51 t413 x13_2).f1)) ∧ w'.cell? ⟨(ad437.add ((x13_2).toNat * 3)).block, (ad437.add ((x13_2).toNat * 3)).off + 2, none⟩ = some (.int .i64 ((rd_T51 t413 x13_2).f2))) (ds := []) #[n_, n_, n_, n_, n_, n_, n_, n_, n_, n_, n_, n_] (by kernel_rfl) rfl rfl ⟨(blk_cell BK434.out 0).trans rfl, (blk_cell BK434.out 1).trans rfl, (blk_cell BK434.out 2).trans rfl, hx437_0, hx437_1, hx437_2⟩ (fun hHeld => ?_); refine with_tabW cohousinglaw26_ChainAgreement.tab19 cohousinglaw26_ChainAgreement.bits19 (fun HT_ HW_ => ?_)
                 generalize wc.drew = w34 at HO_10 HO_11 BK409 BK434 HB hx437_0 hx437_1 hx437_2 hHeld ⊢
                 refine pu_ 0 73 (w_ 12 1) rfl HT_ ?_
                 refine pu_ 1 74 (w_ 12 3) rfl HT_ ?_
                 refine pu_ 2 75 (w_ 12 7) rfl HT_ ?_
                 refine pu_ 3 76 (w_ 12 15) rfl HT_ ?_
                 refine pu_ 4 77 (w_ 12 31) rfl HT_ ?_
                 refine pu_ 5 78 (w_ 12 63) rfl HT_ ?_
                 refine pu_ 6 79 (w_ 12 127) rfl HT_ ?_
                 refine pu_ 7 80 (w_ 12 255) rfl HT_ ?_
                 refine ta_ 8 81 (w_ 12 511) rfl HT_ HW_ hHeld (by rintro w' ⟨s0, s1, s2, s3, s4, s5⟩; go_simp; with_reducible rfl) ?_
                 refine ta_ 9 82 (w_ 12 1023) rfl HT_ HW_ hHeld (by rintro w' ⟨s0, s1, s2, s3, s4, s5⟩; go_simp; with_reducible rfl) ?_
                 refine pu_ 10 83 (w_ 12 2047) rfl HT_ ?_
                 refine pu_ 11 84 (w_ 12 4095) rfl HT_ ?_
                 refine done_ (done_of HT_.out (by kernel_rfl)) ?_
                 try go_wp2
                 go_meet
                 case rel => exact ⟨_, ((((rd_T51 t413 x13_2).f0) == ((rd_T51 ((rd_T49 l1 x14_1).f1) x17_2).f0) && (((rd_T51 t413 x13_2).f1) == ((rd_T51 ((rd_T49 l1 x14_1).f1) x17_2).f1) && (((rd_T51 t413 x13_2).f2) == ((rd_T51 ((rd_T49 l1 x14_1).f1) x17_2).f2))))), sd_, H', ⟨by have := HK1.out; have := HK2.out; have := HJ23.out; first | omega | exact Nat.le_refl _⟩, ⟨by (with_reducible repeat (first | apply Kd.R_alloc | apply Kd.R_drewN | apply Kd.R_drew)); exact HO_10.out⟩, ⟨by (with_reducible repeat (first | apply Kd.R_alloc | apply Kd.R_drewN | apply Kd.R_drew)); exact HO_11.out⟩, ⟨by (with_reducible repeat (first | refine blk_drewN ?_ _ | refine blk_drew ?_ | refine blk_alloc ?_ _)); exact BK409.out⟩, ⟨by (with_reducible repeat (first | refine blk_drewN ?_ _ | refine blk_drew ?_ | refine blk_alloc ?_ _)); exact BK434.out⟩, ⟨by repeat (first | (with_reducible first | exact HB.out | apply below_alloc | apply pw_below_drewN | apply below_drew1 | refine below_set ?_ GE409.out | refine below_set ?_ GE434.out) | exact HB.out)⟩⟩
                ·rw [if_neg c33] at H
                 exact absurd H (by simp)
               ·rw [if_neg c32] at H
                have c32b0 : decide (x13_2 < (t413.length : Int)) = false := decide_eq_false c32
                clear c32
                (first | rw [c32b0] | (simp only [i64_w, i32_w]; rw [c32b0]) | skip)
                have H' := Aside0.mk H
                clear H
                try go_wp2
                have n0_ := Aside0.mk (Kd.R_drew HO_10.out)
                have n1_ := Aside0.mk (Kd.R_drew HO_11.out)
                have n2_ := Aside0.mk (blk_drew BK409.out)
                have n3_ := Aside0.mk (blk_drew BK434.out)
                have n4_ := Aside0.mk (below_drew1 HB.out)
                clear HO_10
                clear HO_11
                clear BK409
                clear BK434
                clear HB
                have HO_10 := n0_
                have HO_11 := n1_
                have BK409 := n2_
                have BK434 := n3_
                have HB := n4_
                clear n0_ n1_ n2_ n3_ n4_
                obtain ⟨Ao37, co37, eo37⟩ := Kd.R_slice HO_10.out
                (first | subst eo37 | (injection eo37 with f1_ f2_ f3_; have f4_ := f1_.symm; have f5_ := f3_.symm; clear f1_ f2_ f3_; subst f4_; subst f5_))
                refine start_ (n := 12) (S := fun w' => True) (ds := []) #[n_, n_, n_, n_, n_, n_, n_, n_, n_, n_, n_, n_] (by kernel_rfl) rfl rfl trivial (fun hHeld => ?_); refine with_tabW cohousinglaw26_ChainAgreement.tab19 cohousinglaw26_ChainAgreement.bits19 (fun HT_ HW_ => ?_)
                generalize wc.drew = w36 at HO_10 HO_11 BK409 BK434 HB hHeld ⊢
                refine pu_ 0 73 (w_ 12 1) rfl HT_ ?_
                refine pu_ 1 74 (w_ 12 3) rfl HT_ ?_
                refine pu_ 2 75 (w_ 12 7) rfl HT_ ?_
                refine pu_ 3 76 (w_ 12 15) rfl HT_ ?_
                refine pu_ 4 77 (w_ 12 31) rfl HT_ ?_
                refine pn_ 5 78 (w_ 12 63) rfl HT_ ?_
                refine pn_ 6 79 (w_ 12 127) rfl HT_ ?_
                refine pn_ 7 80 (w_ 12 255) rfl HT_ ?_
                refine pn_ 8 81 (w_ 12 511) rfl HT_ ?_
                refine pn_ 9 82 (w_ 12 1023) rfl HT_ ?_
                refine pn_ 10 83 (w_ 12 2047) rfl HT_ ?_
                refine pu_ 11 84 (w_ 12 4095) rfl HT_ ?_
                refine done_ (done_of HT_.out (by kernel_rfl)) ?_
                try go_wp2
                go_meet
                case rel => exact ⟨_, (false), sd_, H', ⟨by have := HK1.out; have := HK2.out; have := HJ23.out; first | omega | exact Nat.le_refl _⟩, ⟨by (with_reducible repeat (first | apply Kd.R_alloc | apply Kd.R_drewN | apply Kd.R_drew)); exact HO_10.out⟩, ⟨by (with_reducible repeat (first | apply Kd.R_alloc | apply Kd.R_drewN | apply Kd.R_drew)); exact HO_11.out⟩, ⟨by (with_reducible repeat (first | refine blk_drewN ?_ _ | refine blk_drew ?_ | refine blk_alloc ?_ _)); exact BK409.out⟩, ⟨by (with_reducible repeat (first | refine blk_drewN ?_ _ | refine blk_drew ?_ | refine blk_alloc ?_ _)); exact BK434.out⟩, ⟨by repeat (first | (with_reducible first | exact HB.out | apply below_alloc | apply pw_below_drewN | apply below_drew1 | refine below_set ?_ GE409.out | refine below_set ?_ GE434.out) | exact HB.out)⟩⟩
              case rest =>
               clear HC31
               try clear c1
               try clear c2
               try clear p2
               try clear c3
               try clear c4
               try clear p4
               try clear q4
               try clear hx4
               try clear c5
               try clear c7
               try clear c10
               try clear c10b0
               try clear c10b1
               try clear c13
               try clear c17
               try clear c17b0
               try clear c18
               try clear c18b0
               try clear c19
               try clear c19b0
               try clear c20
               try clear c20b0
               try clear c21
               try clear c21b0
               try clear c23
               try clear c26
               try clear c30
               try clear c32
               try clear c32b0
               try clear c33
               try clear c33b0
               try clear hcz13_0
               try clear hcz13_1
               try clear hcz27_0
               try clear hcz27_1
               try clear hcz27_2
               try clear hfz13_0
               try clear hfz13_1
               try clear hfz27_0
               try clear hfz27_1
               try clear hfz27_2
               try clear hx420_0
               try clear hx420_1
               try clear hx432_0
               try clear hx432_1
               try clear hx433_0
               try clear hx433_1
               try clear hx433_2
               try clear hx437_0
               try clear hx437_1
               try clear hx437_2
               try clear p2
               try clear p4
               try clear p420
               try clear p432
               try clear p433
               try clear p437
               try clear q4
               try clear q420
               try clear q432
               try clear q433
               try clear q437
               obtain ⟨kq, x84_30, rfl, HA, HJ30, HO_10, HO_11, BK409, BK434, HB⟩ := hcut
               cases kq with
               | zero => exact absurd HA.out (by simp [cohousinglaw26_ChainAgreement.j3])
               | succ kj30 =>
                have H := HA.out
                clear HA
                simp only [cohousinglaw26_ChainAgreement.j3] at H
                by_cases c38 : x84_30 = true
                ·subst c38
                 have H1 : (if t436 = true then (if x15_2 = x17_2 then (cohousinglaw26_ChainAgreement.l1 kj30 l1 a2 l3 t410 t413 t416 (wrap64 (x13_2 + 1)) x14_1 (wrap64 (x15_2 + 1)) x16_23 (wrap64 (x17_2 + 1))) else (some false)) else (some false)) = some r := by rw [if_pos rfl] at H; exact H
                 clear H
                 have H := H1
                 clear H1
                 by_cases c39 : t436 = true
                 ·subst c39
                  have H1 : (if x15_2 = x17_2 then (cohousinglaw26_ChainAgreement.l1 kj30 l1 a2 l3 t410 t413 t416 (wrap64 (x13_2 + 1)) x14_1 (wrap64 (x15_2 + 1)) x16_23 (wrap64 (x17_2 + 1))) else (some false)) = some r := by rw [if_pos rfl] at H; exact H
                  clear H
                  have H := H1
                  clear H1
                  by_cases c40 : x15_2 = x17_2
                  ·rw [if_pos c40] at H
                   have c40b0 : (x15_2 == x17_2) = true := beq_iff_eq.mpr c40
                   have c40b1 : (x15_2 != x17_2) = false := bne_eq_false_iff_eq.mpr c40
                   clear c40
                   have H' := Aside0.mk H
                   clear H
                   go_wp2
                   go_roundg kj30
                   case measure => have := HK1.out; have := HK2.out; have := HJ23.out; have := HJ30.out; omega
                   case rel => exact ⟨(wrap64 (x13_2 + 1)), (wrap64 (x15_2 + 1)), (x16_23), (wrap64 (x17_2 + 1)), sd_, sd_, sd_, sd_, H', ⟨by have := HK1.out; have := HK2.out; have := HJ23.out; have := HJ30.out; omega⟩, ⟨by (with_reducible repeat (first | apply Kd.R_alloc | apply Kd.R_drewN | apply Kd.R_drew)); exact Kd.R_mono HO_10.out (fun _ hk => trivial)⟩, ⟨by (with_reducible repeat (first | apply Kd.R_alloc | apply Kd.R_drewN | apply Kd.R_drew)); exact HO_11.out⟩, ⟨by (with_reducible repeat (first | refine blk_drewN ?_ _ | refine blk_drew ?_ | refine blk_alloc ?_ _)); exact BK409.out⟩, ⟨by repeat (first | (with_reducible first | exact HB.out | apply below_alloc | apply pw_below_drewN | apply below_drew1 | refine below_set ?_ GE409.out | refine below_set ?_ GE434.out) | exact HB.out)⟩⟩
                  ·rw [if_neg c40] at H
                   have c40b0 : (x15_2 == x17_2) = false := beq_eq_false_iff_ne.mpr c40
                   have c40b1 : (x15_2 != x17_2) = true := bne_iff_ne.mpr c40
                   obtain rfl := Option.some.inj H
                   go_wp2
                   go_ret
                   exact ⟨ew_, by repeat (first | (with_reducible first | exact HB.out | apply below_alloc | apply pw_below_drewN | apply below_drew1 | refine below_set ?_ GE409.out | refine below_set ?_ GE434.out) | exact HB.out)⟩
                 ·replace c39 := Bool.eq_false_iff.mpr c39
                  subst c39
                  have H1 : (some false) = some r := by rw [if_neg (show ¬ (false = true) by decide)] at H; exact H
                  clear H
                  have H := H1
                  clear H1
                  obtain rfl := Option.some.inj H
                  go_wp2
                  go_ret
                  exact ⟨ew_, by repeat (first | (with_reducible first | exact HB.out | apply below_alloc | apply pw_below_drewN | apply below_drew1 | refine below_set ?_ GE409.out | refine below_set ?_ GE434.out) | exact HB.out)⟩
                ·replace c38 := Bool.eq_false_iff.mpr c38
                 subst c38
                 have H1 : (cohousinglaw26_ChainAgreement.l1 kj30 l1 a2 l3 t410 t413 t416 x13_2 x14_1 x15_2 x16_23 (wrap64 (x17_2 + 1))) = some r := by rw [if_neg (show ¬ (false = true) by decide)] at H; exact H
                 clear H
                 have H := H1
                 clear H1
                 have H' := Aside0.mk H
                 clear H
                 go_wp2
                 go_roundg kj30
                 case measure => have := HK1.out; have := HK2.out; have := HJ23.out; have := HJ30.out; omega
                 case rel => exact ⟨(x13_2), (x15_2), (x16_23), (wrap64 (x17_2 + 1)), sd_, sd_, sd_, sd_, H', ⟨by have := HK1.out; have := HK2.out; have := HJ23.out; have := HJ30.out; omega⟩, ⟨by (with_reducible repeat (first | apply Kd.R_alloc | apply Kd.R_drewN | apply Kd.R_drew)); exact Kd.R_mono HO_10.out (fun _ hk => trivial)⟩, ⟨by (with_reducible repeat (first | apply Kd.R_alloc | apply Kd.R_drewN | apply Kd.R_drew)); exact HO_11.out⟩, ⟨by (with_reducible repeat (first | refine blk_drewN ?_ _ | refine blk_drew ?_ | refine blk_alloc ?_ _)); exact BK409.out⟩, ⟨by repeat (first | (with_reducible first | exact HB.out | apply below_alloc | apply pw_below_drewN | apply below_drew1 | refine below_set ?_ GE409.out | refine below_set ?_ GE434.out) | exact HB.out)⟩⟩
           ·rw [if_neg c21] at H
            exact absurd H (by simp)
          ·rw [if_neg c20] at H
           have c20b0 : decide (x17_2 < (((rd_T49 l1 x14_1).f1).length : Int)) = false := decide_eq_false c20
           clear c20
           obtain ⟨bq41, hbq41⟩ : ∃ b_ : Bool, b_ = ((rd_T49 l1 x14_1).f0) := ⟨_, rfl⟩
           replace H : (if (bq41 = true) then (if x16_2 = true then (if x15_2 = (((rd_T49 l1 x14_1).f1).length : Int) then ((cohousingref23_In.f k2 t416 x14_1).bind fun t423 => (if ((decide (t423 < 0)) != x16_2) = true then (some false) else (cohousinglaw26_ChainAgreement.l0 k2 l1 a2 l3 t410 t413 t416 x13_2 (wrap64 (x14_1 + 1))))) else (some false)) else ((cohousingref23_In.f k2 t416 x14_1).bind fun t424 => (if ((decide (t424 < 0)) != x16_2) = true then (some false) else (cohousinglaw26_ChainAgreement.l0 k2 l1 a2 l3 t410 t413 t416 x13_2 (wrap64 (x14_1 + 1)))))) else (if x15_2 = 0 then (if x16_2 = true then (if x15_2 = (((rd_T49 l1 x14_1).f1).length : Int) then ((cohousingref23_In.f k2 t416 x14_1).bind fun t426 => (if ((decide (t426 < 0)) != x16_2) = true then (some false) else (cohousinglaw26_ChainAgreement.l0 k2 l1 a2 l3 t410 t413 t416 x13_2 (wrap64 (x14_1 + 1))))) else (some false)) else ((cohousingref23_In.f k2 t416 x14_1).bind fun t427 => (if ((decide (t427 < 0)) != x16_2) = true then (some false) else (cohousinglaw26_ChainAgreement.l0 k2 l1 a2 l3 t410 t413 t416 x13_2 (wrap64 (x14_1 + 1)))))) else (if x15_2 = (((rd_T49 l1 x14_1).f1).length : Int) then (if x16_2 = true then ((cohousingref23_In.f k2 t416 x14_1).bind fun t430 => (if ((decide (t430 < 0)) != x16_2) = true then (some false) else (cohousinglaw26_ChainAgreement.l0 k2 l1 a2 l3 t410 t413 t416 x13_2 (wrap64 (x14_1 + 1))))) else ((cohousingref23_In.f k2 t416 x14_1).bind fun t431 => (if ((decide (t431 < 0)) != x16_2) = true then (some false) else (cohousinglaw26_ChainAgreement.l0 k2 l1 a2 l3 t410 t413 t416 x13_2 (wrap64 (x14_1 + 1)))))) else (some false)))) = some r := by rw [← hbq41] at H; exact H
           have Nbq41 := Aside0.mk hbq41
           clear hbq41
           by_cases c42 : (bq41 = true)
           ·subst c42
            have H1 : (if x16_2 = true then (if x15_2 = (((rd_T49 l1 x14_1).f1).length : Int) then ((cohousingref23_In.f k2 t416 x14_1).bind fun t423 => (if ((decide (t423 < 0)) != x16_2) = true then (some false) else (cohousinglaw26_ChainAgreement.l0 k2 l1 a2 l3 t410 t413 t416 x13_2 (wrap64 (x14_1 + 1))))) else (some false)) else ((cohousingref23_In.f k2 t416 x14_1).bind fun t424 => (if ((decide (t424 < 0)) != x16_2) = true then (some false) else (cohousinglaw26_ChainAgreement.l0 k2 l1 a2 l3 t410 t413 t416 x13_2 (wrap64 (x14_1 + 1)))))) = some r := by rw [if_pos rfl] at H; exact H
            clear H
            have H := H1
            clear H1
            by_cases c43 : x16_2 = true
            ·subst c43
             have H1 : (if x15_2 = (((rd_T49 l1 x14_1).f1).length : Int) then ((cohousingref23_In.f k2 t416 x14_1).bind fun t423 => (if ((decide (t423 < 0)) != true) = true then (some false) else (cohousinglaw26_ChainAgreement.l0 k2 l1 a2 l3 t410 t413 t416 x13_2 (wrap64 (x14_1 + 1))))) else (some false)) = some r := by rw [if_pos rfl] at H; exact H
             clear H
             have H := H1
             clear H1
             by_cases c44 : x15_2 = (((rd_T49 l1 x14_1).f1).length : Int)
             ·rw [if_pos c44] at H
              have c44b0 : (x15_2 == (((rd_T49 l1 x14_1).f1).length : Int)) = true := beq_iff_eq.mpr c44
              have c44b1 : (x15_2 != (((rd_T49 l1 x14_1).f1).length : Int)) = false := bne_eq_false_iff_eq.mpr c44
              clear c44
              replace H := Option.bind_eq_some_iff.mp H
              obtain ⟨t423, A450, H⟩ := H
              replace H : (if ((decide (t423 < 0)) != true) = true then (some false) else (cohousinglaw26_ChainAgreement.l0 k2 l1 a2 l3 t410 t413 t416 x13_2 (wrap64 (x14_1 + 1)))) = some r := H
              have A45 := Aside0.mk A450
              clear A450
              by_cases c46 : ((decide (t423 < 0)) != true) = true
              ·rw [if_pos c46] at H
               have c46b0 : ((decide (t423 < 0)) != true) = true := c46
               (try (have c46b1 : decide ((decide (t423 < 0)) = true) = false := by simpa using c46))
               (try (have c46b2 : ((decide (t423 < 0)) == true) = false := by simpa using c46))
               (try (have c46b3 : ¬ ((decide (t423 < 0)) = true) := by simpa using c46))
               clear c46
               obtain rfl := Option.some.inj H
               have p420 : 0 ≤ (x14_1 : Int) := od_
               have q420 : x14_1 < (l1.length : Int) := od_
               obtain ⟨ad420, A420_1, c420_1, e420, hx420_0, hx420_1, hl420_1, hi420_1⟩ := at_T49 HR1.out x14_1 p420 q420
               (try rw [← Nbq41.out] at hx420_0)
               cases e420
               replace hx420_0 := (HB.out.cell (World.block_lt_of_cell? w _ hx420_0)).trans hx420_0
               replace hx420_1 := (HB.out.cell (World.block_lt_of_cell? w _ hx420_1)).trans hx420_1
               have HR420_1 := Aside0.mk hi420_1
               have HC420_1 := Aside0.mk hl420_1
               clear hi420_1 hl420_1
               replace p420 := eq_true p420
               replace q420 := eq_true q420
               have p421 : 0 ≤ (x14_1 : Int) := od_
               have q421 : x14_1 < (l1.length : Int) := od_
               obtain ⟨ad421, A421_1, c421_1, e421, hx421_0, hx421_1, hl421_1, hi421_1⟩ := at_T49 HR1.out x14_1 p421 q421
               (try rw [← Nbq41.out] at hx421_0)
               obtain rfl : ad420 = ad421 := (by injection e421)
               replace hx421_0 := (HB.out.cell (World.block_lt_of_cell? w _ hx421_0)).trans hx421_0
               replace hx421_1 := (HB.out.cell (World.block_lt_of_cell? w _ hx421_1)).trans hx421_1
               have HR421_1 := Aside0.mk hi421_1
               have HC421_1 := Aside0.mk hl421_1
               clear hi421_1 hl421_1
               replace p421 := eq_true p421
               replace q421 := eq_true q421
               have ea_ := Option.some.inj (hx420_1.symm.trans hx421_1)
               injection ea_ with ea_ en_ ec_
               subst ea_
               subst ec_
               clear en_
               have p422 : 0 ≤ (x14_1 : Int) := od_
               have q422 : x14_1 < (l1.length : Int) := od_
               obtain ⟨ad422, A422_1, c422_1, e422, hx422_0, hx422_1, hl422_1, hi422_1⟩ := at_T49 HR1.out x14_1 p422 q422
               (try rw [← Nbq41.out] at hx422_0)
               obtain rfl : ad420 = ad422 := (by injection e422)
               replace hx422_0 := (HB.out.cell (World.block_lt_of_cell? w _ hx422_0)).trans hx422_0
               replace hx422_1 := (HB.out.cell (World.block_lt_of_cell? w _ hx422_1)).trans hx422_1
               have HR422_1 := Aside0.mk hi422_1
               have HC422_1 := Aside0.mk hl422_1
               clear hi422_1 hl422_1
               replace p422 := eq_true p422
               replace q422 := eq_true q422
               have ea_ := Option.some.inj (hx420_1.symm.trans hx422_1)
               injection ea_ with ea_ en_ ec_
               subst ea_
               subst ec_
               clear en_
               obtain ⟨Ao47, co47, eo47⟩ := Kd.R_slice HO_11.out
               subst eo47
               go_wp2_with (first | (go_at_call 24; (with_reducible refine (cohousingref23_In.calls k2 _ _ t416 x14_1 t423 _ ?side1 ?side2 A45.out).mono ?_); (case side1 => exact cc_ ((Kd.R_reads' HO_11.out).2.2)); (case side2 => exact (Kd.R_reads' HO_11.out).2.1); rintro e w' ⟨rfl, ⟨nd, rfl⟩⟩))
               go_ret
               exact ⟨ew_, by repeat (first | (with_reducible first | exact HB.out | apply below_alloc | apply pw_below_drewN | apply below_drew1 | refine below_set ?_ GE409.out) | exact HB.out)⟩
              ·rw [if_neg c46] at H
               have c46b0 : ((decide (t423 < 0)) != true) = false := by simpa using c46
               (try (have c46b1 : decide ((decide (t423 < 0)) = true) = true := by simpa using c46))
               (try (have c46b2 : ((decide (t423 < 0)) == true) = true := by simpa using c46))
               clear c46
               have H' := Aside0.mk H
               clear H
               have p420 : 0 ≤ (x14_1 : Int) := od_
               have q420 : x14_1 < (l1.length : Int) := od_
               obtain ⟨ad420, A420_1, c420_1, e420, hx420_0, hx420_1, hl420_1, hi420_1⟩ := at_T49 HR1.out x14_1 p420 q420
               (try rw [← Nbq41.out] at hx420_0)
               cases e420
               replace hx420_0 := (HB.out.cell (World.block_lt_of_cell? w _ hx420_0)).trans hx420_0
               replace hx420_1 := (HB.out.cell (World.block_lt_of_cell? w _ hx420_1)).trans hx420_1
               have HR420_1 := Aside0.mk hi420_1
               have HC420_1 := Aside0.mk hl420_1
               clear hi420_1 hl420_1
               replace p420 := eq_true p420
               replace q420 := eq_true q420
               have p421 : 0 ≤ (x14_1 : Int) := od_
               have q421 : x14_1 < (l1.length : Int) := od_
               obtain ⟨ad421, A421_1, c421_1, e421, hx421_0, hx421_1, hl421_1, hi421_1⟩ := at_T49 HR1.out x14_1 p421 q421
               (try rw [← Nbq41.out] at hx421_0)
               obtain rfl : ad420 = ad421 := (by injection e421)
               replace hx421_0 := (HB.out.cell (World.block_lt_of_cell? w _ hx421_0)).trans hx421_0
               replace hx421_1 := (HB.out.cell (World.block_lt_of_cell? w _ hx421_1)).trans hx421_1
               have HR421_1 := Aside0.mk hi421_1
               have HC421_1 := Aside0.mk hl421_1
               clear hi421_1 hl421_1
               replace p421 := eq_true p421
               replace q421 := eq_true q421
               have ea_ := Option.some.inj (hx420_1.symm.trans hx421_1)
               injection ea_ with ea_ en_ ec_
               subst ea_
               subst ec_
               clear en_
               have p422 : 0 ≤ (x14_1 : Int) := od_
               have q422 : x14_1 < (l1.length : Int) := od_
               obtain ⟨ad422, A422_1, c422_1, e422, hx422_0, hx422_1, hl422_1, hi422_1⟩ := at_T49 HR1.out x14_1 p422 q422
               (try rw [← Nbq41.out] at hx422_0)
               obtain rfl : ad420 = ad422 := (by injection e422)
               replace hx422_0 := (HB.out.cell (World.block_lt_of_cell? w _ hx422_0)).trans hx422_0
               replace hx422_1 := (HB.out.cell (World.block_lt_of_cell? w _ hx422_1)).trans hx422_1
               have HR422_1 := Aside0.mk hi422_1
               have HC422_1 := Aside0.mk hl422_1
               clear hi422_1 hl422_1
               replace p422 := eq_true p422
               replace q422 := eq_true q422
               have ea_ := Option.some.inj (hx420_1.symm.trans hx422_1)
               injection ea_ with ea_ en_ ec_
               subst ea_
               subst ec_
               clear en_
               obtain ⟨Ao48, co48, eo48⟩ := Kd.R_slice HO_11.out
               subst eo48
               go_wp2_with (first | (go_at_call 24; (with_reducible refine (cohousingref23_In.calls k2 _ _ t416 x14_1 t423 _ ?side1 ?side2 A45.out).mono ?_); (case side1 => exact cc_ ((Kd.R_reads' HO_11.out).2.2)); (case side2 => exact (Kd.R_reads' HO_11.out).2.1); rintro e w' ⟨rfl, ⟨nd, rfl⟩⟩))
               go_roundg k2
               case measure => have := HK1.out; have := HK2.out; omega
               case rel => exact ⟨(x13_2), (wrap64 (x14_1 + 1)), sd_, sd_, H', ⟨by have := HK1.out; have := HK2.out; omega⟩, ⟨by (with_reducible repeat (first | apply Kd.R_alloc | apply Kd.R_drewN | apply Kd.R_drew)); exact HO_10.out⟩, ⟨by (with_reducible repeat (first | apply Kd.R_alloc | apply Kd.R_drewN | apply Kd.R_drew)); exact HO_11.out⟩, ⟨by (with_reducible repeat (first | refine blk_drewN ?_ _ | refine blk_drew ?_ | refine blk_alloc ?_ _)); exact BK409.out⟩, ⟨by repeat (first | (with_reducible first | exact HB.out | apply below_alloc | apply pw_below_drewN | apply below_drew1 | refine below_set ?_ GE409.out) | exact HB.out)⟩⟩
             ·rw [if_neg c44] at H
              have c44b0 : (x15_2 == (((rd_T49 l1 x14_1).f1).length : Int)) = false := beq_eq_false_iff_ne.mpr c44
              have c44b1 : (x15_2 != (((rd_T49 l1 x14_1).f1).length : Int)) = true := bne_iff_ne.mpr c44
              obtain rfl := Option.some.inj H
              have p420 : 0 ≤ (x14_1 : Int) := od_
              have q420 : x14_1 < (l1.length : Int) := od_
              obtain ⟨ad420, A420_1, c420_1, e420, hx420_0, hx420_1, hl420_1, hi420_1⟩ := at_T49 HR1.out x14_1 p420 q420
              (try rw [← Nbq41.out] at hx420_0)
              cases e420
              replace hx420_0 := (HB.out.cell (World.block_lt_of_cell? w _ hx420_0)).trans hx420_0
              replace hx420_1 := (HB.out.cell (World.block_lt_of_cell? w _ hx420_1)).trans hx420_1
              have HR420_1 := Aside0.mk hi420_1
              have HC420_1 := Aside0.mk hl420_1
              clear hi420_1 hl420_1
              replace p420 := eq_true p420
              replace q420 := eq_true q420
              have p421 : 0 ≤ (x14_1 : Int) := od_
              have q421 : x14_1 < (l1.length : Int) := od_
              obtain ⟨ad421, A421_1, c421_1, e421, hx421_0, hx421_1, hl421_1, hi421_1⟩ := at_T49 HR1.out x14_1 p421 q421
              (try rw [← Nbq41.out] at hx421_0)
              obtain rfl : ad420 = ad421 := (by injection e421)
              replace hx421_0 := (HB.out.cell (World.block_lt_of_cell? w _ hx421_0)).trans hx421_0
              replace hx421_1 := (HB.out.cell (World.block_lt_of_cell? w _ hx421_1)).trans hx421_1
              have HR421_1 := Aside0.mk hi421_1
              have HC421_1 := Aside0.mk hl421_1
              clear hi421_1 hl421_1
              replace p421 := eq_true p421
              replace q421 := eq_true q421
              have ea_ := Option.some.inj (hx420_1.symm.trans hx421_1)
              injection ea_ with ea_ en_ ec_
              subst ea_
              subst ec_
              clear en_
              have p422 : 0 ≤ (x14_1 : Int) := od_
              have q422 : x14_1 < (l1.length : Int) := od_
              obtain ⟨ad422, A422_1, c422_1, e422, hx422_0, hx422_1, hl422_1, hi422_1⟩ := at_T49 HR1.out x14_1 p422 q422
              (try rw [← Nbq41.out] at hx422_0)
              obtain rfl : ad420 = ad422 := (by injection e422)
              replace hx422_0 := (HB.out.cell (World.block_lt_of_cell? w _ hx422_0)).trans hx422_0
              replace hx422_1 := (HB.out.cell (World.block_lt_of_cell? w _ hx422_1)).trans hx422_1
              have HR422_1 := Aside0.mk hi422_1
              have HC422_1 := Aside0.mk hl422_1
              clear hi422_1 hl422_1
              replace p422 := eq_true p422
              replace q422 := eq_true q422
              have ea_ := Option.some.inj (hx420_1.symm.trans hx422_1)
              injection ea_ with ea_ en_ ec_
              subst ea_
              subst ec_
              clear en_
              go_wp2
              go_ret
              exact ⟨ew_, by repeat (first | (with_reducible first | exact HB.out | apply below_alloc | apply pw_below_drewN | apply below_drew1 | refine below_set ?_ GE409.out) | exact HB.out)⟩
            ·replace c43 := Bool.eq_false_iff.mpr c43
             subst c43
             have H1 : ((cohousingref23_In.f k2 t416 x14_1).bind fun t424 => (if ((decide (t424 < 0)) != false) = true then (some false) else (cohousinglaw26_ChainAgreement.l0 k2 l1 a2 l3 t410 t413 t416 x13_2 (wrap64 (x14_1 + 1))))) = some r := by rw [if_neg (show ¬ (false = true) by decide)] at H; exact H
             clear H
             have H := H1
             clear H1
             replace H := Option.bind_eq_some_iff.mp H
             obtain ⟨t424, A490, H⟩ := H
             replace H : (if ((decide (t424 < 0)) != false) = true then (some false) else (cohousinglaw26_ChainAgreement.l0 k2 l1 a2 l3 t410 t413 t416 x13_2 (wrap64 (x14_1 + 1)))) = some r := H
             have A49 := Aside0.mk A490
             clear A490
             by_cases c50 : ((decide (t424 < 0)) != false) = true
             ·rw [if_pos c50] at H
              have c50b0 : ((decide (t424 < 0)) != false) = true := c50
              (try (have c50b1 : decide ((decide (t424 < 0)) = false) = false := by simpa using c50))
              (try (have c50b2 : ((decide (t424 < 0)) == false) = false := by simpa using c50))
              (try (have c50b3 : ¬ ((decide (t424 < 0)) = false) := by simpa using c50))
              clear c50
              obtain rfl := Option.some.inj H
              have p420 : 0 ≤ (x14_1 : Int) := od_
              have q420 : x14_1 < (l1.length : Int) := od_
              obtain ⟨ad420, A420_1, c420_1, e420, hx420_0, hx420_1, hl420_1, hi420_1⟩ := at_T49 HR1.out x14_1 p420 q420
              (try rw [← Nbq41.out] at hx420_0)
              cases e420
              replace hx420_0 := (HB.out.cell (World.block_lt_of_cell? w _ hx420_0)).trans hx420_0
              replace hx420_1 := (HB.out.cell (World.block_lt_of_cell? w _ hx420_1)).trans hx420_1
              have HR420_1 := Aside0.mk hi420_1
              have HC420_1 := Aside0.mk hl420_1
              clear hi420_1 hl420_1
              replace p420 := eq_true p420
              replace q420 := eq_true q420
              have p421 : 0 ≤ (x14_1 : Int) := od_
              have q421 : x14_1 < (l1.length : Int) := od_
              obtain ⟨ad421, A421_1, c421_1, e421, hx421_0, hx421_1, hl421_1, hi421_1⟩ := at_T49 HR1.out x14_1 p421 q421
              (try rw [← Nbq41.out] at hx421_0)
              obtain rfl : ad420 = ad421 := (by injection e421)
              replace hx421_0 := (HB.out.cell (World.block_lt_of_cell? w _ hx421_0)).trans hx421_0
              replace hx421_1 := (HB.out.cell (World.block_lt_of_cell? w _ hx421_1)).trans hx421_1
              have HR421_1 := Aside0.mk hi421_1
              have HC421_1 := Aside0.mk hl421_1
              clear hi421_1 hl421_1
              replace p421 := eq_true p421
              replace q421 := eq_true q421
              have ea_ := Option.some.inj (hx420_1.symm.trans hx421_1)
              injection ea_ with ea_ en_ ec_
              subst ea_
              subst ec_
              clear en_
              obtain ⟨Ao51, co51, eo51⟩ := Kd.R_slice HO_11.out
              subst eo51
              go_wp2_with (first | (go_at_call 24; (with_reducible refine (cohousingref23_In.calls k2 _ _ t416 x14_1 t424 _ ?side1 ?side2 A49.out).mono ?_); (case side1 => exact cc_ ((Kd.R_reads' HO_11.out).2.2)); (case side2 => exact (Kd.R_reads' HO_11.out).2.1); rintro e w' ⟨rfl, ⟨nd, rfl⟩⟩))
              go_ret
              exact ⟨ew_, by repeat (first | (with_reducible first | exact HB.out | apply below_alloc | apply pw_below_drewN | apply below_drew1 | refine below_set ?_ GE409.out) | exact HB.out)⟩
             ·rw [if_neg c50] at H
              have c50b0 : ((decide (t424 < 0)) != false) = false := by simpa using c50
              (try (have c50b1 : decide ((decide (t424 < 0)) = false) = true := by simpa using c50))
              (try (have c50b2 : ((decide (t424 < 0)) == false) = true := by simpa using c50))
              clear c50
              have H' := Aside0.mk H
              clear H
              have p420 : 0 ≤ (x14_1 : Int) := od_
              have q420 : x14_1 < (l1.length : Int) := od_
              obtain ⟨ad420, A420_1, c420_1, e420, hx420_0, hx420_1, hl420_1, hi420_1⟩ := at_T49 HR1.out x14_1 p420 q420
              (try rw [← Nbq41.out] at hx420_0)
              cases e420
              replace hx420_0 := (HB.out.cell (World.block_lt_of_cell? w _ hx420_0)).trans hx420_0
              replace hx420_1 := (HB.out.cell (World.block_lt_of_cell? w _ hx420_1)).trans hx420_1
              have HR420_1 := Aside0.mk hi420_1
              have HC420_1 := Aside0.mk hl420_1
              clear hi420_1 hl420_1
              replace p420 := eq_true p420
              replace q420 := eq_true q420
              have p421 : 0 ≤ (x14_1 : Int) := od_
              have q421 : x14_1 < (l1.length : Int) := od_
              obtain ⟨ad421, A421_1, c421_1, e421, hx421_0, hx421_1, hl421_1, hi421_1⟩ := at_T49 HR1.out x14_1 p421 q421
              (try rw [← Nbq41.out] at hx421_0)
              obtain rfl : ad420 = ad421 := (by injection e421)
              replace hx421_0 := (HB.out.cell (World.block_lt_of_cell? w _ hx421_0)).trans hx421_0
              replace hx421_1 := (HB.out.cell (World.block_lt_of_cell? w _ hx421_1)).trans hx421_1
              have HR421_1 := Aside0.mk hi421_1
              have HC421_1 := Aside0.mk hl421_1
              clear hi421_1 hl421_1
              replace p421 := eq_true p421
              replace q421 := eq_true q421
              have ea_ := Option.some.inj (hx420_1.symm.trans hx421_1)
              injection ea_ with ea_ en_ ec_
              subst ea_
              subst ec_
              clear en_
              obtain ⟨Ao52, co52, eo52⟩ := Kd.R_slice HO_11.out
              subst eo52
              go_wp2_with (first | (go_at_call 24; (with_reducible refine (cohousingref23_In.calls k2 _ _ t416 x14_1 t424 _ ?side1 ?side2 A49.out).mono ?_); (case side1 => exact cc_ ((Kd.R_reads' HO_11.out).2.2)); (case side2 => exact (Kd.R_reads' HO_11.out).2.1); rintro e w' ⟨rfl, ⟨nd, rfl⟩⟩))
              go_roundg k2
              case measure => have := HK1.out; have := HK2.out; omega
              case rel => exact ⟨(x13_2), (wrap64 (x14_1 + 1)), sd_, sd_, H', ⟨by have := HK1.out; have := HK2.out; omega⟩, ⟨by (with_reducible repeat (first | apply Kd.R_alloc | apply Kd.R_drewN | apply Kd.R_drew)); exact HO_10.out⟩, ⟨by (with_reducible repeat (first | apply Kd.R_alloc | apply Kd.R_drewN | apply Kd.R_drew)); exact HO_11.out⟩, ⟨by (with_reducible repeat (first | refine blk_drewN ?_ _ | refine blk_drew ?_ | refine blk_alloc ?_ _)); exact BK409.out⟩, ⟨by repeat (first | (with_reducible first | exact HB.out | apply below_alloc | apply pw_below_drewN | apply below_drew1 | refine below_set ?_ GE409.out) | exact HB.out)⟩⟩
           ·replace c42 := Bool.eq_false_iff.mpr c42
            subst c42
            have H1 : (if x15_2 = 0 then (if x16_2 = true then (if x15_2 = (((rd_T49 l1 x14_1).f1).length : Int) then ((cohousingref23_In.f k2 t416 x14_1).bind fun t426 => (if ((decide (t426 < 0)) != x16_2) = true then (some false) else (cohousinglaw26_ChainAgreement.l0 k2 l1 a2 l3 t410 t413 t416 x13_2 (wrap64 (x14_1 + 1))))) else (some false)) else ((cohousingref23_In.f k2 t416 x14_1).bind fun t427 => (if ((decide (t427 < 0)) != x16_2) = true then (some false) else (cohousinglaw26_ChainAgreement.l0 k2 l1 a2 l3 t410 t413 t416 x13_2 (wrap64 (x14_1 + 1)))))) else (if x15_2 = (((rd_T49 l1 x14_1).f1).length : Int) then (if x16_2 = true then ((cohousingref23_In.f k2 t416 x14_1).bind fun t430 => (if ((decide (t430 < 0)) != x16_2) = true then (some false) else (cohousinglaw26_ChainAgreement.l0 k2 l1 a2 l3 t410 t413 t416 x13_2 (wrap64 (x14_1 + 1))))) else ((cohousingref23_In.f k2 t416 x14_1).bind fun t431 => (if ((decide (t431 < 0)) != x16_2) = true then (some false) else (cohousinglaw26_ChainAgreement.l0 k2 l1 a2 l3 t410 t413 t416 x13_2 (wrap64 (x14_1 + 1)))))) else (some false))) = some r := by rw [if_neg (show ¬ (false = true) by decide)] at H; exact H
            clear H
            have H := H1
            clear H1
            by_cases c53 : x15_2 = 0
            ·rw [if_pos c53] at H
             have c53b0 : (x15_2 == 0) = true := beq_iff_eq.mpr c53
             have c53b1 : (x15_2 != 0) = false := bne_eq_false_iff_eq.mpr c53
             clear c53
             by_cases c54 : x16_2 = true
             ·subst c54
              have H1 : (if x15_2 = (((rd_T49 l1 x14_1).f1).length : Int) then ((cohousingref23_In.f k2 t416 x14_1).bind fun t426 => (if ((decide (t426 < 0)) != true) = true then (some false) else (cohousinglaw26_ChainAgreement.l0 k2 l1 a2 l3 t410 t413 t416 x13_2 (wrap64 (x14_1 + 1))))) else (some false)) = some r := by rw [if_pos rfl] at H; exact H
              clear H
              have H := H1
              clear H1
              by_cases c55 : x15_2 = (((rd_T49 l1 x14_1).f1).length : Int)
              ·rw [if_pos c55] at H
               have c55b0 : (x15_2 == (((rd_T49 l1 x14_1).f1).length : Int)) = true := beq_iff_eq.mpr c55
               have c55b1 : (x15_2 != (((rd_T49 l1 x14_1).f1).length : Int)) = false := bne_eq_false_iff_eq.mpr c55
               clear c55
               replace H := Option.bind_eq_some_iff.mp H
               obtain ⟨t426, A560, H⟩ := H
               replace H : (if ((decide (t426 < 0)) != true) = true then (some false) else (cohousinglaw26_ChainAgreement.l0 k2 l1 a2 l3 t410 t413 t416 x13_2 (wrap64 (x14_1 + 1)))) = some r := H
               have A56 := Aside0.mk A560
               clear A560
               by_cases c57 : ((decide (t426 < 0)) != true) = true
               ·rw [if_pos c57] at H
                have c57b0 : ((decide (t426 < 0)) != true) = true := c57
                (try (have c57b1 : decide ((decide (t426 < 0)) = true) = false := by simpa using c57))
                (try (have c57b2 : ((decide (t426 < 0)) == true) = false := by simpa using c57))
                (try (have c57b3 : ¬ ((decide (t426 < 0)) = true) := by simpa using c57))
                clear c57
                obtain rfl := Option.some.inj H
                have p420 : 0 ≤ (x14_1 : Int) := od_
                have q420 : x14_1 < (l1.length : Int) := od_
                obtain ⟨ad420, A420_1, c420_1, e420, hx420_0, hx420_1, hl420_1, hi420_1⟩ := at_T49 HR1.out x14_1 p420 q420
                (try rw [← Nbq41.out] at hx420_0)
                cases e420
                replace hx420_0 := (HB.out.cell (World.block_lt_of_cell? w _ hx420_0)).trans hx420_0
                replace hx420_1 := (HB.out.cell (World.block_lt_of_cell? w _ hx420_1)).trans hx420_1
                have HR420_1 := Aside0.mk hi420_1
                have HC420_1 := Aside0.mk hl420_1
                clear hi420_1 hl420_1
                replace p420 := eq_true p420
                replace q420 := eq_true q420
                have p421 : 0 ≤ (x14_1 : Int) := od_
                have q421 : x14_1 < (l1.length : Int) := od_
                obtain ⟨ad421, A421_1, c421_1, e421, hx421_0, hx421_1, hl421_1, hi421_1⟩ := at_T49 HR1.out x14_1 p421 q421
                (try rw [← Nbq41.out] at hx421_0)
                obtain rfl : ad420 = ad421 := (by injection e421)
                replace hx421_0 := (HB.out.cell (World.block_lt_of_cell? w _ hx421_0)).trans hx421_0
                replace hx421_1 := (HB.out.cell (World.block_lt_of_cell? w _ hx421_1)).trans hx421_1
                have HR421_1 := Aside0.mk hi421_1
                have HC421_1 := Aside0.mk hl421_1
                clear hi421_1 hl421_1
                replace p421 := eq_true p421
                replace q421 := eq_true q421
                have ea_ := Option.some.inj (hx420_1.symm.trans hx421_1)
                injection ea_ with ea_ en_ ec_
                subst ea_
                subst ec_
                clear en_
                have p425 : 0 ≤ (x14_1 : Int) := od_
                have q425 : x14_1 < (l1.length : Int) := od_
                obtain ⟨ad425, A425_1, c425_1, e425, hx425_0, hx425_1, hl425_1, hi425_1⟩ := at_T49 HR1.out x14_1 p425 q425
                (try rw [← Nbq41.out] at hx425_0)
                obtain rfl : ad420 = ad425 := (by injection e425)
                replace hx425_0 := (HB.out.cell (World.block_lt_of_cell? w _ hx425_0)).trans hx425_0
                replace hx425_1 := (HB.out.cell (World.block_lt_of_cell? w _ hx425_1)).trans hx425_1
                have HR425_1 := Aside0.mk hi425_1
                have HC425_1 := Aside0.mk hl425_1
                clear hi425_1 hl425_1
                replace p425 := eq_true p425
                replace q425 := eq_true q425
                have ea_ := Option.some.inj (hx420_1.symm.trans hx425_1)
                injection ea_ with ea_ en_ ec_
                subst ea_
                subst ec_
                clear en_
                obtain ⟨Ao58, co58, eo58⟩ := Kd.R_slice HO_11.out
                subst eo58
                go_wp2_with (first | (go_at_call 24; (with_reducible refine (cohousingref23_In.calls k2 _ _ t416 x14_1 t426 _ ?side1 ?side2 A56.out).mono ?_); (case side1 => exact cc_ ((Kd.R_reads' HO_11.out).2.2)); (case side2 => exact (Kd.R_reads' HO_11.out).2.1); rintro e w' ⟨rfl, ⟨nd, rfl⟩⟩))
                go_ret
                exact ⟨ew_, by repeat (first | (with_reducible first | exact HB.out | apply below_alloc | apply pw_below_drewN | apply below_drew1 | refine below_set ?_ GE409.out) | exact HB.out)⟩
               ·rw [if_neg c57] at H
                have c57b0 : ((decide (t426 < 0)) != true) = false := by simpa using c57
                (try (have c57b1 : decide ((decide (t426 < 0)) = true) = true := by simpa using c57))
                (try (have c57b2 : ((decide (t426 < 0)) == true) = true := by simpa using c57))
                clear c57
                have H' := Aside0.mk H
                clear H
                have p420 : 0 ≤ (x14_1 : Int) := od_
                have q420 : x14_1 < (l1.length : Int) := od_
                obtain ⟨ad420, A420_1, c420_1, e420, hx420_0, hx420_1, hl420_1, hi420_1⟩ := at_T49 HR1.out x14_1 p420 q420
                (try rw [← Nbq41.out] at hx420_0)
                cases e420
                replace hx420_0 := (HB.out.cell (World.block_lt_of_cell? w _ hx420_0)).trans hx420_0
                replace hx420_1 := (HB.out.cell (World.block_lt_of_cell? w _ hx420_1)).trans hx420_1
                have HR420_1 := Aside0.mk hi420_1
                have HC420_1 := Aside0.mk hl420_1
                clear hi420_1 hl420_1
                replace p420 := eq_true p420
                replace q420 := eq_true q420
                have p421 : 0 ≤ (x14_1 : Int) := od_
                have q421 : x14_1 < (l1.length : Int) := od_
                obtain ⟨ad421, A421_1, c421_1, e421, hx421_0, hx421_1, hl421_1, hi421_1⟩ := at_T49 HR1.out x14_1 p421 q421
                (try rw [← Nbq41.out] at hx421_0)
                obtain rfl : ad420 = ad421 := (by injection e421)
                replace hx421_0 := (HB.out.cell (World.block_lt_of_cell? w _ hx421_0)).trans hx421_0
                replace hx421_1 := (HB.out.cell (World.block_lt_of_cell? w _ hx421_1)).trans hx421_1
                have HR421_1 := Aside0.mk hi421_1
                have HC421_1 := Aside0.mk hl421_1
                clear hi421_1 hl421_1
                replace p421 := eq_true p421
                replace q421 := eq_true q421
                have ea_ := Option.some.inj (hx420_1.symm.trans hx421_1)
                injection ea_ with ea_ en_ ec_
                subst ea_
                subst ec_
                clear en_
                have p425 : 0 ≤ (x14_1 : Int) := od_
                have q425 : x14_1 < (l1.length : Int) := od_
                obtain ⟨ad425, A425_1, c425_1, e425, hx425_0, hx425_1, hl425_1, hi425_1⟩ := at_T49 HR1.out x14_1 p425 q425
                (try rw [← Nbq41.out] at hx425_0)
                obtain rfl : ad420 = ad425 := (by injection e425)
                replace hx425_0 := (HB.out.cell (World.block_lt_of_cell? w _ hx425_0)).trans hx425_0
                replace hx425_1 := (HB.out.cell (World.block_lt_of_cell? w _ hx425_1)).trans hx425_1
                have HR425_1 := Aside0.mk hi425_1
                have HC425_1 := Aside0.mk hl425_1
                clear hi425_1 hl425_1
                replace p425 := eq_true p425
                replace q425 := eq_true q425
                have ea_ := Option.some.inj (hx420_1.symm.trans hx425_1)
                injection ea_ with ea_ en_ ec_
                subst ea_
                subst ec_
                clear en_
                obtain ⟨Ao59, co59, eo59⟩ := Kd.R_slice HO_11.out
                subst eo59
                go_wp2_with (first | (go_at_call 24; (with_reducible refine (cohousingref23_In.calls k2 _ _ t416 x14_1 t426 _ ?side1 ?side2 A56.out).mono ?_); (case side1 => exact cc_ ((Kd.R_reads' HO_11.out).2.2)); (case side2 => exact (Kd.R_reads' HO_11.out).2.1); rintro e w' ⟨rfl, ⟨nd, rfl⟩⟩))
                go_roundg k2
                case measure => have := HK1.out; have := HK2.out; omega
                case rel => exact ⟨(x13_2), (wrap64 (x14_1 + 1)), sd_, sd_, H', ⟨by have := HK1.out; have := HK2.out; omega⟩, ⟨by (with_reducible repeat (first | apply Kd.R_alloc | apply Kd.R_drewN | apply Kd.R_drew)); exact HO_10.out⟩, ⟨by (with_reducible repeat (first | apply Kd.R_alloc | apply Kd.R_drewN | apply Kd.R_drew)); exact HO_11.out⟩, ⟨by (with_reducible repeat (first | refine blk_drewN ?_ _ | refine blk_drew ?_ | refine blk_alloc ?_ _)); exact BK409.out⟩, ⟨by repeat (first | (with_reducible first | exact HB.out | apply below_alloc | apply pw_below_drewN | apply below_drew1 | refine below_set ?_ GE409.out) | exact HB.out)⟩⟩
              ·rw [if_neg c55] at H
               have c55b0 : (x15_2 == (((rd_T49 l1 x14_1).f1).length : Int)) = false := beq_eq_false_iff_ne.mpr c55
               have c55b1 : (x15_2 != (((rd_T49 l1 x14_1).f1).length : Int)) = true := bne_iff_ne.mpr c55
               obtain rfl := Option.some.inj H
               have p420 : 0 ≤ (x14_1 : Int) := od_
               have q420 : x14_1 < (l1.length : Int) := od_
               obtain ⟨ad420, A420_1, c420_1, e420, hx420_0, hx420_1, hl420_1, hi420_1⟩ := at_T49 HR1.out x14_1 p420 q420
               (try rw [← Nbq41.out] at hx420_0)
               cases e420
               replace hx420_0 := (HB.out.cell (World.block_lt_of_cell? w _ hx420_0)).trans hx420_0
               replace hx420_1 := (HB.out.cell (World.block_lt_of_cell? w _ hx420_1)).trans hx420_1
               have HR420_1 := Aside0.mk hi420_1
               have HC420_1 := Aside0.mk hl420_1
               clear hi420_1 hl420_1
               replace p420 := eq_true p420
               replace q420 := eq_true q420
               have p421 : 0 ≤ (x14_1 : Int) := od_
               have q421 : x14_1 < (l1.length : Int) := od_
               obtain ⟨ad421, A421_1, c421_1, e421, hx421_0, hx421_1, hl421_1, hi421_1⟩ := at_T49 HR1.out x14_1 p421 q421
               (try rw [← Nbq41.out] at hx421_0)
               obtain rfl : ad420 = ad421 := (by injection e421)
               replace hx421_0 := (HB.out.cell (World.block_lt_of_cell? w _ hx421_0)).trans hx421_0
               replace hx421_1 := (HB.out.cell (World.block_lt_of_cell? w _ hx421_1)).trans hx421_1
               have HR421_1 := Aside0.mk hi421_1
               have HC421_1 := Aside0.mk hl421_1
               clear hi421_1 hl421_1
               replace p421 := eq_true p421
               replace q421 := eq_true q421
               have ea_ := Option.some.inj (hx420_1.symm.trans hx421_1)
               injection ea_ with ea_ en_ ec_
               subst ea_
               subst ec_
               clear en_
               have p425 : 0 ≤ (x14_1 : Int) := od_
               have q425 : x14_1 < (l1.length : Int) := od_
               obtain ⟨ad425, A425_1, c425_1, e425, hx425_0, hx425_1, hl425_1, hi425_1⟩ := at_T49 HR1.out x14_1 p425 q425
               (try rw [← Nbq41.out] at hx425_0)
               obtain rfl : ad420 = ad425 := (by injection e425)
               replace hx425_0 := (HB.out.cell (World.block_lt_of_cell? w _ hx425_0)).trans hx425_0
               replace hx425_1 := (HB.out.cell (World.block_lt_of_cell? w _ hx425_1)).trans hx425_1
               have HR425_1 := Aside0.mk hi425_1
               have HC425_1 := Aside0.mk hl425_1
               clear hi425_1 hl425_1
               replace p425 := eq_true p425
               replace q425 := eq_true q425
               have ea_ := Option.some.inj (hx420_1.symm.trans hx425_1)
               injection ea_ with ea_ en_ ec_
               subst ea_
               subst ec_
               clear en_
               go_wp2
               go_ret
               exact ⟨ew_, by repeat (first | (with_reducible first | exact HB.out | apply below_alloc | apply pw_below_drewN | apply below_drew1 | refine below_set ?_ GE409.out) | exact HB.out)⟩
             ·replace c54 := Bool.eq_false_iff.mpr c54
              subst c54
              have H1 : ((cohousingref23_In.f k2 t416 x14_1).bind fun t427 => (if ((decide (t427 < 0)) != false) = true then (some false) else (cohousinglaw26_ChainAgreement.l0 k2 l1 a2 l3 t410 t413 t416 x13_2 (wrap64 (x14_1 + 1))))) = some r := by rw [if_neg (show ¬ (false = true) by decide)] at H; exact H
              clear H
              have H := H1
              clear H1
              replace H := Option.bind_eq_some_iff.mp H
              obtain ⟨t427, A600, H⟩ := H
              replace H : (if ((decide (t427 < 0)) != false) = true then (some false) else (cohousinglaw26_ChainAgreement.l0 k2 l1 a2 l3 t410 t413 t416 x13_2 (wrap64 (x14_1 + 1)))) = some r := H
              have A60 := Aside0.mk A600
              clear A600
              by_cases c61 : ((decide (t427 < 0)) != false) = true
              ·rw [if_pos c61] at H
               have c61b0 : ((decide (t427 < 0)) != false) = true := c61
               (try (have c61b1 : decide ((decide (t427 < 0)) = false) = false := by simpa using c61))
               (try (have c61b2 : ((decide (t427 < 0)) == false) = false := by simpa using c61))
               (try (have c61b3 : ¬ ((decide (t427 < 0)) = false) := by simpa using c61))
               clear c61
               obtain rfl := Option.some.inj H
               have p420 : 0 ≤ (x14_1 : Int) := od_
               have q420 : x14_1 < (l1.length : Int) := od_
               obtain ⟨ad420, A420_1, c420_1, e420, hx420_0, hx420_1, hl420_1, hi420_1⟩ := at_T49 HR1.out x14_1 p420 q420
               (try rw [← Nbq41.out] at hx420_0)
               cases e420
               replace hx420_0 := (HB.out.cell (World.block_lt_of_cell? w _ hx420_0)).trans hx420_0
               replace hx420_1 := (HB.out.cell (World.block_lt_of_cell? w _ hx420_1)).trans hx420_1
               have HR420_1 := Aside0.mk hi420_1
               have HC420_1 := Aside0.mk hl420_1
               clear hi420_1 hl420_1
               replace p420 := eq_true p420
               replace q420 := eq_true q420
               have p421 : 0 ≤ (x14_1 : Int) := od_
               have q421 : x14_1 < (l1.length : Int) := od_
               obtain ⟨ad421, A421_1, c421_1, e421, hx421_0, hx421_1, hl421_1, hi421_1⟩ := at_T49 HR1.out x14_1 p421 q421
               (try rw [← Nbq41.out] at hx421_0)
               obtain rfl : ad420 = ad421 := (by injection e421)
               replace hx421_0 := (HB.out.cell (World.block_lt_of_cell? w _ hx421_0)).trans hx421_0
               replace hx421_1 := (HB.out.cell (World.block_lt_of_cell? w _ hx421_1)).trans hx421_1
               have HR421_1 := Aside0.mk hi421_1
               have HC421_1 := Aside0.mk hl421_1
               clear hi421_1 hl421_1
               replace p421 := eq_true p421
               replace q421 := eq_true q421
               have ea_ := Option.some.inj (hx420_1.symm.trans hx421_1)
               injection ea_ with ea_ en_ ec_
               subst ea_
               subst ec_
               clear en_
               obtain ⟨Ao62, co62, eo62⟩ := Kd.R_slice HO_11.out
               subst eo62
               go_wp2_with (first | (go_at_call 24; (with_reducible refine (cohousingref23_In.calls k2 _ _ t416 x14_1 t427 _ ?side1 ?side2 A60.out).mono ?_); (case side1 => exact cc_ ((Kd.R_reads' HO_11.out).2.2)); (case side2 => exact (Kd.R_reads' HO_11.out).2.1); rintro e w' ⟨rfl, ⟨nd, rfl⟩⟩))
               go_ret
               exact ⟨ew_, by repeat (first | (with_reducible first | exact HB.out | apply below_alloc | apply pw_below_drewN | apply below_drew1 | refine below_set ?_ GE409.out) | exact HB.out)⟩
              ·rw [if_neg c61] at H
               have c61b0 : ((decide (t427 < 0)) != false) = false := by simpa using c61
               (try (have c61b1 : decide ((decide (t427 < 0)) = false) = true := by simpa using c61))
               (try (have c61b2 : ((decide (t427 < 0)) == false) = true := by simpa using c61))
               clear c61
               have H' := Aside0.mk H
               clear H
               have p420 : 0 ≤ (x14_1 : Int) := od_
               have q420 : x14_1 < (l1.length : Int) := od_
               obtain ⟨ad420, A420_1, c420_1, e420, hx420_0, hx420_1, hl420_1, hi420_1⟩ := at_T49 HR1.out x14_1 p420 q420
               (try rw [← Nbq41.out] at hx420_0)
               cases e420
               replace hx420_0 := (HB.out.cell (World.block_lt_of_cell? w _ hx420_0)).trans hx420_0
               replace hx420_1 := (HB.out.cell (World.block_lt_of_cell? w _ hx420_1)).trans hx420_1
               have HR420_1 := Aside0.mk hi420_1
               have HC420_1 := Aside0.mk hl420_1
               clear hi420_1 hl420_1
               replace p420 := eq_true p420
               replace q420 := eq_true q420
               have p421 : 0 ≤ (x14_1 : Int) := od_
               have q421 : x14_1 < (l1.length : Int) := od_
               obtain ⟨ad421, A421_1, c421_1, e421, hx421_0, hx421_1, hl421_1, hi421_1⟩ := at_T49 HR1.out x14_1 p421 q421
               (try rw [← Nbq41.out] at hx421_0)
               obtain rfl : ad420 = ad421 := (by injection e421)
               replace hx421_0 := (HB.out.cell (World.block_lt_of_cell? w _ hx421_0)).trans hx421_0
               replace hx421_1 := (HB.out.cell (World.block_lt_of_cell? w _ hx421_1)).trans hx421_1
               have HR421_1 := Aside0.mk hi421_1
               have HC421_1 := Aside0.mk hl421_1
               clear hi421_1 hl421_1
               replace p421 := eq_true p421
               replace q421 := eq_true q421
               have ea_ := Option.some.inj (hx420_1.symm.trans hx421_1)
               injection ea_ with ea_ en_ ec_
               subst ea_
               subst ec_
               clear en_
               obtain ⟨Ao63, co63, eo63⟩ := Kd.R_slice HO_11.out
               subst eo63
               go_wp2_with (first | (go_at_call 24; (with_reducible refine (cohousingref23_In.calls k2 _ _ t416 x14_1 t427 _ ?side1 ?side2 A60.out).mono ?_); (case side1 => exact cc_ ((Kd.R_reads' HO_11.out).2.2)); (case side2 => exact (Kd.R_reads' HO_11.out).2.1); rintro e w' ⟨rfl, ⟨nd, rfl⟩⟩))
               go_roundg k2
               case measure => have := HK1.out; have := HK2.out; omega
               case rel => exact ⟨(x13_2), (wrap64 (x14_1 + 1)), sd_, sd_, H', ⟨by have := HK1.out; have := HK2.out; omega⟩, ⟨by (with_reducible repeat (first | apply Kd.R_alloc | apply Kd.R_drewN | apply Kd.R_drew)); exact HO_10.out⟩, ⟨by (with_reducible repeat (first | apply Kd.R_alloc | apply Kd.R_drewN | apply Kd.R_drew)); exact HO_11.out⟩, ⟨by (with_reducible repeat (first | refine blk_drewN ?_ _ | refine blk_drew ?_ | refine blk_alloc ?_ _)); exact BK409.out⟩, ⟨by repeat (first | (with_reducible first | exact HB.out | apply below_alloc | apply pw_below_drewN | apply below_drew1 | refine below_set ?_ GE409.out) | exact HB.out)⟩⟩
            ·rw [if_neg c53] at H
             have c53b0 : (x15_2 == 0) = false := beq_eq_false_iff_ne.mpr c53
             have c53b1 : (x15_2 != 0) = true := bne_iff_ne.mpr c53
             by_cases c64 : x15_2 = (((rd_T49 l1 x14_1).f1).length : Int)
             ·rw [if_pos c64] at H
              have c64b0 : (x15_2 == (((rd_T49 l1 x14_1).f1).length : Int)) = true := beq_iff_eq.mpr c64
              have c64b1 : (x15_2 != (((rd_T49 l1 x14_1).f1).length : Int)) = false := bne_eq_false_iff_eq.mpr c64
              clear c64
              by_cases c65 : x16_2 = true
              ·subst c65
               have H1 : ((cohousingref23_In.f k2 t416 x14_1).bind fun t430 => (if ((decide (t430 < 0)) != true) = true then (some false) else (cohousinglaw26_ChainAgreement.l0 k2 l1 a2 l3 t410 t413 t416 x13_2 (wrap64 (x14_1 + 1))))) = some r := by rw [if_pos rfl] at H; exact H
               clear H
               have H := H1
               clear H1
               replace H := Option.bind_eq_some_iff.mp H
               obtain ⟨t430, A660, H⟩ := H
               replace H : (if ((decide (t430 < 0)) != true) = true then (some false) else (cohousinglaw26_ChainAgreement.l0 k2 l1 a2 l3 t410 t413 t416 x13_2 (wrap64 (x14_1 + 1)))) = some r := H
               have A66 := Aside0.mk A660
               clear A660
               by_cases c67 : ((decide (t430 < 0)) != true) = true
               ·rw [if_pos c67] at H
                have c67b0 : ((decide (t430 < 0)) != true) = true := c67
                (try (have c67b1 : decide ((decide (t430 < 0)) = true) = false := by simpa using c67))
                (try (have c67b2 : ((decide (t430 < 0)) == true) = false := by simpa using c67))
                (try (have c67b3 : ¬ ((decide (t430 < 0)) = true) := by simpa using c67))
                clear c67
                obtain rfl := Option.some.inj H
                have p420 : 0 ≤ (x14_1 : Int) := od_
                have q420 : x14_1 < (l1.length : Int) := od_
                obtain ⟨ad420, A420_1, c420_1, e420, hx420_0, hx420_1, hl420_1, hi420_1⟩ := at_T49 HR1.out x14_1 p420 q420
                (try rw [← Nbq41.out] at hx420_0)
                cases e420
                replace hx420_0 := (HB.out.cell (World.block_lt_of_cell? w _ hx420_0)).trans hx420_0
                replace hx420_1 := (HB.out.cell (World.block_lt_of_cell? w _ hx420_1)).trans hx420_1
                have HR420_1 := Aside0.mk hi420_1
                have HC420_1 := Aside0.mk hl420_1
                clear hi420_1 hl420_1
                replace p420 := eq_true p420
                replace q420 := eq_true q420
                have p421 : 0 ≤ (x14_1 : Int) := od_
                have q421 : x14_1 < (l1.length : Int) := od_
                obtain ⟨ad421, A421_1, c421_1, e421, hx421_0, hx421_1, hl421_1, hi421_1⟩ := at_T49 HR1.out x14_1 p421 q421
                (try rw [← Nbq41.out] at hx421_0)
                obtain rfl : ad420 = ad421 := (by injection e421)
                replace hx421_0 := (HB.out.cell (World.block_lt_of_cell? w _ hx421_0)).trans hx421_0
                replace hx421_1 := (HB.out.cell (World.block_lt_of_cell? w _ hx421_1)).trans hx421_1
                have HR421_1 := Aside0.mk hi421_1
                have HC421_1 := Aside0.mk hl421_1
                clear hi421_1 hl421_1
                replace p421 := eq_true p421
                replace q421 := eq_true q421
                have ea_ := Option.some.inj (hx420_1.symm.trans hx421_1)
                injection ea_ with ea_ en_ ec_
                subst ea_
                subst ec_
                clear en_
                have p428 : 0 ≤ (x14_1 : Int) := od_
                have q428 : x14_1 < (l1.length : Int) := od_
                obtain ⟨ad428, A428_1, c428_1, e428, hx428_0, hx428_1, hl428_1, hi428_1⟩ := at_T49 HR1.out x14_1 p428 q428
                (try rw [← Nbq41.out] at hx428_0)
                obtain rfl : ad420 = ad428 := (by injection e428)
                replace hx428_0 := (HB.out.cell (World.block_lt_of_cell? w _ hx428_0)).trans hx428_0
                replace hx428_1 := (HB.out.cell (World.block_lt_of_cell? w _ hx428_1)).trans hx428_1
                have HR428_1 := Aside0.mk hi428_1
                have HC428_1 := Aside0.mk hl428_1
                clear hi428_1 hl428_1
                replace p428 := eq_true p428
                replace q428 := eq_true q428
                have ea_ := Option.some.inj (hx420_1.symm.trans hx428_1)
                injection ea_ with ea_ en_ ec_
                subst ea_
                subst ec_
                clear en_
                have p429 : 0 ≤ (x14_1 : Int) := od_
                have q429 : x14_1 < (l1.length : Int) := od_
                obtain ⟨ad429, A429_1, c429_1, e429, hx429_0, hx429_1, hl429_1, hi429_1⟩ := at_T49 HR1.out x14_1 p429 q429
                (try rw [← Nbq41.out] at hx429_0)
                obtain rfl : ad420 = ad429 := (by injection e429)
                replace hx429_0 := (HB.out.cell (World.block_lt_of_cell? w _ hx429_0)).trans hx429_0
                replace hx429_1 := (HB.out.cell (World.block_lt_of_cell? w _ hx429_1)).trans hx429_1
                have HR429_1 := Aside0.mk hi429_1
                have HC429_1 := Aside0.mk hl429_1
                clear hi429_1 hl429_1
                replace p429 := eq_true p429
                replace q429 := eq_true q429
                have ea_ := Option.some.inj (hx420_1.symm.trans hx429_1)
                injection ea_ with ea_ en_ ec_
                subst ea_
                subst ec_
                clear en_
                obtain ⟨Ao68, co68, eo68⟩ := Kd.R_slice HO_11.out
                subst eo68
                go_wp2_with (first | (go_at_call 24; (with_reducible refine (cohousingref23_In.calls k2 _ _ t416 x14_1 t430 _ ?side1 ?side2 A66.out).mono ?_); (case side1 => exact cc_ ((Kd.R_reads' HO_11.out).2.2)); (case side2 => exact (Kd.R_reads' HO_11.out).2.1); rintro e w' ⟨rfl, ⟨nd, rfl⟩⟩))
                go_ret
                exact ⟨ew_, by repeat (first | (with_reducible first | exact HB.out | apply below_alloc | apply pw_below_drewN | apply below_drew1 | refine below_set ?_ GE409.out) | exact HB.out)⟩
               ·rw [if_neg c67] at H
                have c67b0 : ((decide (t430 < 0)) != true) = false := by simpa using c67
                (try (have c67b1 : decide ((decide (t430 < 0)) = true) = true := by simpa using c67))
                (try (have c67b2 : ((decide (t430 < 0)) == true) = true := by simpa using c67))
                clear c67
                have H' := Aside0.mk H
                clear H
                have p420 : 0 ≤ (x14_1 : Int) := od_
                have q420 : x14_1 < (l1.length : Int) := od_
                obtain ⟨ad420, A420_1, c420_1, e420, hx420_0, hx420_1, hl420_1, hi420_1⟩ := at_T49 HR1.out x14_1 p420 q420
                (try rw [← Nbq41.out] at hx420_0)
                cases e420
                replace hx420_0 := (HB.out.cell (World.block_lt_of_cell? w _ hx420_0)).trans hx420_0
                replace hx420_1 := (HB.out.cell (World.block_lt_of_cell? w _ hx420_1)).trans hx420_1
                have HR420_1 := Aside0.mk hi420_1
                have HC420_1 := Aside0.mk hl420_1
                clear hi420_1 hl420_1
                replace p420 := eq_true p420
                replace q420 := eq_true q420
                have p421 : 0 ≤ (x14_1 : Int) := od_
                have q421 : x14_1 < (l1.length : Int) := od_
                obtain ⟨ad421, A421_1, c421_1, e421, hx421_0, hx421_1, hl421_1, hi421_1⟩ := at_T49 HR1.out x14_1 p421 q421
                (try rw [← Nbq41.out] at hx421_0)
                obtain rfl : ad420 = ad421 := (by injection e421)
                replace hx421_0 := (HB.out.cell (World.block_lt_of_cell? w _ hx421_0)).trans hx421_0
                replace hx421_1 := (HB.out.cell (World.block_lt_of_cell? w _ hx421_1)).trans hx421_1
                have HR421_1 := Aside0.mk hi421_1
                have HC421_1 := Aside0.mk hl421_1
                clear hi421_1 hl421_1
                replace p421 := eq_true p421
                replace q421 := eq_true q421
                have ea_ := Option.some.inj (hx420_1.symm.trans hx421_1)
                injection ea_ with ea_ en_ ec_
                subst ea_
                subst ec_
                clear en_
                have p428 : 0 ≤ (x14_1 : Int) := od_
                have q428 : x14_1 < (l1.length : Int) := od_
                obtain ⟨ad428, A428_1, c428_1, e428, hx428_0, hx428_1, hl428_1, hi428_1⟩ := at_T49 HR1.out x14_1 p428 q428
                (try rw [← Nbq41.out] at hx428_0)
                obtain rfl : ad420 = ad428 := (by injection e428)
                replace hx428_0 := (HB.out.cell (World.block_lt_of_cell? w _ hx428_0)).trans hx428_0
                replace hx428_1 := (HB.out.cell (World.block_lt_of_cell? w _ hx428_1)).trans hx428_1
                have HR428_1 := Aside0.mk hi428_1
                have HC428_1 := Aside0.mk hl428_1
                clear hi428_1 hl428_1
                replace p428 := eq_true p428
                replace q428 := eq_true q428
                have ea_ := Option.some.inj (hx420_1.symm.trans hx428_1)
                injection ea_ with ea_ en_ ec_
                subst ea_
                subst ec_
                clear en_
                have p429 : 0 ≤ (x14_1 : Int) := od_
                have q429 : x14_1 < (l1.length : Int) := od_
                obtain ⟨ad429, A429_1, c429_1, e429, hx429_0, hx429_1, hl429_1, hi429_1⟩ := at_T49 HR1.out x14_1 p429 q429
                (try rw [← Nbq41.out] at hx429_0)
                obtain rfl : ad420 = ad429 := (by injection e429)
                replace hx429_0 := (HB.out.cell (World.block_lt_of_cell? w _ hx429_0)).trans hx429_0
                replace hx429_1 := (HB.out.cell (World.block_lt_of_cell? w _ hx429_1)).trans hx429_1
                have HR429_1 := Aside0.mk hi429_1
                have HC429_1 := Aside0.mk hl429_1
                clear hi429_1 hl429_1
                replace p429 := eq_true p429
                replace q429 := eq_true q429
                have ea_ := Option.some.inj (hx420_1.symm.trans hx429_1)
                injection ea_ with ea_ en_ ec_
                subst ea_
                subst ec_
                clear en_
                obtain ⟨Ao69, co69, eo69⟩ := Kd.R_slice HO_11.out
                subst eo69
                go_wp2_with (first | (go_at_call 24; (with_reducible refine (cohousingref23_In.calls k2 _ _ t416 x14_1 t430 _ ?side1 ?side2 A66.out).mono ?_); (case side1 => exact cc_ ((Kd.R_reads' HO_11.out).2.2)); (case side2 => exact (Kd.R_reads' HO_11.out).2.1); rintro e w' ⟨rfl, ⟨nd, rfl⟩⟩))
                go_roundg k2
                case measure => have := HK1.out; have := HK2.out; omega
                case rel => exact ⟨(x13_2), (wrap64 (x14_1 + 1)), sd_, sd_, H', ⟨by have := HK1.out; have := HK2.out; omega⟩, ⟨by (with_reducible repeat (first | apply Kd.R_alloc | apply Kd.R_drewN | apply Kd.R_drew)); exact HO_10.out⟩, ⟨by (with_reducible repeat (first | apply Kd.R_alloc | apply Kd.R_drewN | apply Kd.R_drew)); exact HO_11.out⟩, ⟨by (with_reducible repeat (first | refine blk_drewN ?_ _ | refine blk_drew ?_ | refine blk_alloc ?_ _)); exact BK409.out⟩, ⟨by repeat (first | (with_reducible first | exact HB.out | apply below_alloc | apply pw_below_drewN | apply below_drew1 | refine below_set ?_ GE409.out) | exact HB.out)⟩⟩
              ·replace c65 := Bool.eq_false_iff.mpr c65
               subst c65
               have H1 : ((cohousingref23_In.f k2 t416 x14_1).bind fun t431 => (if ((decide (t431 < 0)) != false) = true then (some false) else (cohousinglaw26_ChainAgreement.l0 k2 l1 a2 l3 t410 t413 t416 x13_2 (wrap64 (x14_1 + 1))))) = some r := by rw [if_neg (show ¬ (false = true) by decide)] at H; exact H
               clear H
               have H := H1
               clear H1
               replace H := Option.bind_eq_some_iff.mp H
               obtain ⟨t431, A700, H⟩ := H
               replace H : (if ((decide (t431 < 0)) != false) = true then (some false) else (cohousinglaw26_ChainAgreement.l0 k2 l1 a2 l3 t410 t413 t416 x13_2 (wrap64 (x14_1 + 1)))) = some r := H
               have A70 := Aside0.mk A700
               clear A700
               by_cases c71 : ((decide (t431 < 0)) != false) = true
               ·rw [if_pos c71] at H
                have c71b0 : ((decide (t431 < 0)) != false) = true := c71
                (try (have c71b1 : decide ((decide (t431 < 0)) = false) = false := by simpa using c71))
                (try (have c71b2 : ((decide (t431 < 0)) == false) = false := by simpa using c71))
                (try (have c71b3 : ¬ ((decide (t431 < 0)) = false) := by simpa using c71))
                clear c71
                obtain rfl := Option.some.inj H
                have p420 : 0 ≤ (x14_1 : Int) := od_
                have q420 : x14_1 < (l1.length : Int) := od_
                obtain ⟨ad420, A420_1, c420_1, e420, hx420_0, hx420_1, hl420_1, hi420_1⟩ := at_T49 HR1.out x14_1 p420 q420
                (try rw [← Nbq41.out] at hx420_0)
                cases e420
                replace hx420_0 := (HB.out.cell (World.block_lt_of_cell? w _ hx420_0)).trans hx420_0
                replace hx420_1 := (HB.out.cell (World.block_lt_of_cell? w _ hx420_1)).trans hx420_1
                have HR420_1 := Aside0.mk hi420_1
                have HC420_1 := Aside0.mk hl420_1
                clear hi420_1 hl420_1
                replace p420 := eq_true p420
                replace q420 := eq_true q420
                have p421 : 0 ≤ (x14_1 : Int) := od_
                have q421 : x14_1 < (l1.length : Int) := od_
                obtain ⟨ad421, A421_1, c421_1, e421, hx421_0, hx421_1, hl421_1, hi421_1⟩ := at_T49 HR1.out x14_1 p421 q421
                (try rw [← Nbq41.out] at hx421_0)
                obtain rfl : ad420 = ad421 := (by injection e421)
                replace hx421_0 := (HB.out.cell (World.block_lt_of_cell? w _ hx421_0)).trans hx421_0
                replace hx421_1 := (HB.out.cell (World.block_lt_of_cell? w _ hx421_1)).trans hx421_1
                have HR421_1 := Aside0.mk hi421_1
                have HC421_1 := Aside0.mk hl421_1
                clear hi421_1 hl421_1
                replace p421 := eq_true p421
                replace q421 := eq_true q421
                have ea_ := Option.some.inj (hx420_1.symm.trans hx421_1)
                injection ea_ with ea_ en_ ec_
                subst ea_
                subst ec_
                clear en_
                have p428 : 0 ≤ (x14_1 : Int) := od_
                have q428 : x14_1 < (l1.length : Int) := od_
                obtain ⟨ad428, A428_1, c428_1, e428, hx428_0, hx428_1, hl428_1, hi428_1⟩ := at_T49 HR1.out x14_1 p428 q428
                (try rw [← Nbq41.out] at hx428_0)
                obtain rfl : ad420 = ad428 := (by injection e428)
                replace hx428_0 := (HB.out.cell (World.block_lt_of_cell? w _ hx428_0)).trans hx428_0
                replace hx428_1 := (HB.out.cell (World.block_lt_of_cell? w _ hx428_1)).trans hx428_1
                have HR428_1 := Aside0.mk hi428_1
                have HC428_1 := Aside0.mk hl428_1
                clear hi428_1 hl428_1
                replace p428 := eq_true p428
                replace q428 := eq_true q428
                have ea_ := Option.some.inj (hx420_1.symm.trans hx428_1)
                injection ea_ with ea_ en_ ec_
                subst ea_
                subst ec_
                clear en_
                obtain ⟨Ao72, co72, eo72⟩ := Kd.R_slice HO_11.out
                subst eo72
                go_wp2_with (first | (go_at_call 24; (with_reducible refine (cohousingref23_In.calls k2 _ _ t416 x14_1 t431 _ ?side1 ?side2 A70.out).mono ?_); (case side1 => exact cc_ ((Kd.R_reads' HO_11.out).2.2)); (case side2 => exact (Kd.R_reads' HO_11.out).2.1); rintro e w' ⟨rfl, ⟨nd, rfl⟩⟩))
                go_ret
                exact ⟨ew_, by repeat (first | (with_reducible first | exact HB.out | apply below_alloc | apply pw_below_drewN | apply below_drew1 | refine below_set ?_ GE409.out) | exact HB.out)⟩
               ·rw [if_neg c71] at H
                have c71b0 : ((decide (t431 < 0)) != false) = false := by simpa using c71
                (try (have c71b1 : decide ((decide (t431 < 0)) = false) = true := by simpa using c71))
                (try (have c71b2 : ((decide (t431 < 0)) == false) = true := by simpa using c71))
                clear c71
                have H' := Aside0.mk H
                clear H
                have p420 : 0 ≤ (x14_1 : Int) := od_
                have q420 : x14_1 < (l1.length : Int) := od_
                obtain ⟨ad420, A420_1, c420_1, e420, hx420_0, hx420_1, hl420_1, hi420_1⟩ := at_T49 HR1.out x14_1 p420 q420
                (try rw [← Nbq41.out] at hx420_0)
                cases e420
                replace hx420_0 := (HB.out.cell (World.block_lt_of_cell? w _ hx420_0)).trans hx420_0
                replace hx420_1 := (HB.out.cell (World.block_lt_of_cell? w _ hx420_1)).trans hx420_1
                have HR420_1 := Aside0.mk hi420_1
                have HC420_1 := Aside0.mk hl420_1
                clear hi420_1 hl420_1
                replace p420 := eq_true p420
                replace q420 := eq_true q420
                have p421 : 0 ≤ (x14_1 : Int) := od_
                have q421 : x14_1 < (l1.length : Int) := od_
                obtain ⟨ad421, A421_1, c421_1, e421, hx421_0, hx421_1, hl421_1, hi421_1⟩ := at_T49 HR1.out x14_1 p421 q421
                (try rw [← Nbq41.out] at hx421_0)
                obtain rfl : ad420 = ad421 := (by injection e421)
                replace hx421_0 := (HB.out.cell (World.block_lt_of_cell? w _ hx421_0)).trans hx421_0
                replace hx421_1 := (HB.out.cell (World.block_lt_of_cell? w _ hx421_1)).trans hx421_1
                have HR421_1 := Aside0.mk hi421_1
                have HC421_1 := Aside0.mk hl421_1
                clear hi421_1 hl421_1
                replace p421 := eq_true p421
                replace q421 := eq_true q421
                have ea_ := Option.some.inj (hx420_1.symm.trans hx421_1)
                injection ea_ with ea_ en_ ec_
                subst ea_
                subst ec_
                clear en_
                have p428 : 0 ≤ (x14_1 : Int) := od_
                have q428 : x14_1 < (l1.length : Int) := od_
                obtain ⟨ad428, A428_1, c428_1, e428, hx428_0, hx428_1, hl428_1, hi428_1⟩ := at_T49 HR1.out x14_1 p428 q428
                (try rw [← Nbq41.out] at hx428_0)
                obtain rfl : ad420 = ad428 := (by injection e428)
                replace hx428_0 := (HB.out.cell (World.block_lt_of_cell? w _ hx428_0)).trans hx428_0
                replace hx428_1 := (HB.out.cell (World.block_lt_of_cell? w _ hx428_1)).trans hx428_1
                have HR428_1 := Aside0.mk hi428_1
                have HC428_1 := Aside0.mk hl428_1
                clear hi428_1 hl428_1
                replace p428 := eq_true p428
                replace q428 := eq_true q428
                have ea_ := Option.some.inj (hx420_1.symm.trans hx428_1)
                injection ea_ with ea_ en_ ec_
                subst ea_
                subst ec_
                clear en_
                obtain ⟨Ao73, co73, eo73⟩ := Kd.R_slice HO_11.out
                subst eo73
                go_wp2_with (first | (go_at_call 24; (with_reducible refine (cohousingref23_In.calls k2 _ _ t416 x14_1 t431 _ ?side1 ?side2 A70.out).mono ?_); (case side1 => exact cc_ ((Kd.R_reads' HO_11.out).2.2)); (case side2 => exact (Kd.R_reads' HO_11.out).2.1); rintro e w' ⟨rfl, ⟨nd, rfl⟩⟩))
                go_roundg k2
                case measure => have := HK1.out; have := HK2.out; omega
                case rel => exact ⟨(x13_2), (wrap64 (x14_1 + 1)), sd_, sd_, H', ⟨by have := HK1.out; have := HK2.out; omega⟩, ⟨by (with_reducible repeat (first | apply Kd.R_alloc | apply Kd.R_drewN | apply Kd.R_drew)); exact HO_10.out⟩, ⟨by (with_reducible repeat (first | apply Kd.R_alloc | apply Kd.R_drewN | apply Kd.R_drew)); exact HO_11.out⟩, ⟨by (with_reducible repeat (first | refine blk_drewN ?_ _ | refine blk_drew ?_ | refine blk_alloc ?_ _)); exact BK409.out⟩, ⟨by repeat (first | (with_reducible first | exact HB.out | apply below_alloc | apply pw_below_drewN | apply below_drew1 | refine below_set ?_ GE409.out) | exact HB.out)⟩⟩
             ·rw [if_neg c64] at H
              have c64b0 : (x15_2 == (((rd_T49 l1 x14_1).f1).length : Int)) = false := beq_eq_false_iff_ne.mpr c64
              have c64b1 : (x15_2 != (((rd_T49 l1 x14_1).f1).length : Int)) = true := bne_iff_ne.mpr c64
              obtain rfl := Option.some.inj H
              have p420 : 0 ≤ (x14_1 : Int) := od_
              have q420 : x14_1 < (l1.length : Int) := od_
              obtain ⟨ad420, A420_1, c420_1, e420, hx420_0, hx420_1, hl420_1, hi420_1⟩ := at_T49 HR1.out x14_1 p420 q420
              (try rw [← Nbq41.out] at hx420_0)
              cases e420
              replace hx420_0 := (HB.out.cell (World.block_lt_of_cell? w _ hx420_0)).trans hx420_0
              replace hx420_1 := (HB.out.cell (World.block_lt_of_cell? w _ hx420_1)).trans hx420_1
              have HR420_1 := Aside0.mk hi420_1
              have HC420_1 := Aside0.mk hl420_1
              clear hi420_1 hl420_1
              replace p420 := eq_true p420
              replace q420 := eq_true q420
              have p421 : 0 ≤ (x14_1 : Int) := od_
              have q421 : x14_1 < (l1.length : Int) := od_
              obtain ⟨ad421, A421_1, c421_1, e421, hx421_0, hx421_1, hl421_1, hi421_1⟩ := at_T49 HR1.out x14_1 p421 q421
              (try rw [← Nbq41.out] at hx421_0)
              obtain rfl : ad420 = ad421 := (by injection e421)
              replace hx421_0 := (HB.out.cell (World.block_lt_of_cell? w _ hx421_0)).trans hx421_0
              replace hx421_1 := (HB.out.cell (World.block_lt_of_cell? w _ hx421_1)).trans hx421_1
              have HR421_1 := Aside0.mk hi421_1
              have HC421_1 := Aside0.mk hl421_1
              clear hi421_1 hl421_1
              replace p421 := eq_true p421
              replace q421 := eq_true q421
              have ea_ := Option.some.inj (hx420_1.symm.trans hx421_1)
              injection ea_ with ea_ en_ ec_
              subst ea_
              subst ec_
              clear en_
              have p428 : 0 ≤ (x14_1 : Int) := od_
              have q428 : x14_1 < (l1.length : Int) := od_
              obtain ⟨ad428, A428_1, c428_1, e428, hx428_0, hx428_1, hl428_1, hi428_1⟩ := at_T49 HR1.out x14_1 p428 q428
              (try rw [← Nbq41.out] at hx428_0)
              obtain rfl : ad420 = ad428 := (by injection e428)
              replace hx428_0 := (HB.out.cell (World.block_lt_of_cell? w _ hx428_0)).trans hx428_0
              replace hx428_1 := (HB.out.cell (World.block_lt_of_cell? w _ hx428_1)).trans hx428_1
              have HR428_1 := Aside0.mk hi428_1
              have HC428_1 := Aside0.mk hl428_1
              clear hi428_1 hl428_1
              replace p428 := eq_true p428
              replace q428 := eq_true q428
              have ea_ := Option.some.inj (hx420_1.symm.trans hx428_1)
              injection ea_ with ea_ en_ ec_
              subst ea_
              subst ec_
              clear en_
              go_wp2
              go_ret
              exact ⟨ew_, by repeat (first | (with_reducible first | exact HB.out | apply below_alloc | apply pw_below_drewN | apply below_drew1 | refine below_set ?_ GE409.out) | exact HB.out)⟩
         ·rw [if_neg c19] at H
          exact absurd H (by simp)
        ·rw [if_neg c18] at H
         exact absurd H (by simp)
     ·rw [if_neg c17] at H
      have c17b0 : decide (x14_1 < (l1.length : Int)) = false := decide_eq_false c17
      clear c17
      by_cases c74 : t410 = true
      ·subst c74
       have H1 : (some (x13_1 == (t413.length : Int))) = some r := by rw [if_pos rfl] at H; exact H
       clear H
       have H := H1
       clear H1
       obtain rfl := Option.some.inj H
       obtain ⟨Ao75, co75, eo75⟩ := Kd.R_slice HO_10.out
       subst eo75
       go_wp2
       go_ret
       exact ⟨ew_, by repeat (first | (with_reducible first | exact HB.out | apply below_alloc | apply pw_below_drewN | apply below_drew1 | refine below_set ?_ GE409.out) | exact HB.out)⟩
      ·replace c74 := Bool.eq_false_iff.mpr c74
       subst c74
       have H1 : (some false) = some r := by rw [if_neg (show ¬ (false = true) by decide)] at H; exact H
       clear H
       have H := H1
       clear H1
       obtain rfl := Option.some.inj H
       go_wp2
       go_ret
       exact ⟨ew_, by repeat (first | (with_reducible first | exact HB.out | apply below_alloc | apply pw_below_drewN | apply below_drew1 | refine below_set ?_ GE409.out) | exact HB.out)⟩
  ·rw [if_neg c10] at H
   have c10b0 : (t419 == 0) = false := beq_eq_false_iff_ne.mpr c10
   have c10b1 : (t419 != 0) = true := bne_iff_ne.mpr c10
   obtain rfl := Option.some.inj H
   go_enter Try.func5, Try.ntmps5
   try go_wp2_with (first | ((with_reducible refine gate_dst (N := 4) rfl ?_); (try (refine gate_guard (by rfl) ?_; dsimp only)); refine box_event ?hg (N := 4) ?hd (cs := #[.slice A0_0 l0_0.length c0_0, .slice A0_1 l0_1.length c0_1]) (t := 25) ?hr ?_; (case hd => rfl); (case hg => rfl); (case hr => first | (go_simp; done) | (go_simp; rfl)); intro gb409 hg w76 hbox hb; have n0_ := Aside0.mk (below_step (bb_ HB) hb); have n1_ := Aside0.mk (hbox); have n2_ := Aside0.mk ((by rw [hg]; exact (below_size (bb_ HB)) : w.heap.size ≤ gb409)); have n3_ := Aside0.mk ((by rw [hg]; exact (below_size (bb_ HB)) : w.heap.size ≤ gb409)); clear HB; have HB := n0_; have BK409 := n1_; have GW409 := n2_; have GE409 := n3_; clear n0_ n1_ n2_ n3_; clear hb hbox hg) | ((with_reducible refine gate_callee (f := 10) rfl ?_); refine gl_ (some 20) Try.func10 #[] ?_; (with_reducible refine (cohousinglaw26_head.calls k  t410 _ A5.out).mono ?_); rintro e w77 ⟨rfl, hb⟩; refine ⟨_, rfl, ?_⟩; have n0_ := Aside0.mk (blk_below (g := gb409) (o := .cells #[.slice A0_0 l0_0.length c0_0, .slice A0_1 l0_1.length c0_1] 25 (0, 0)) (kk_ BK409) hb); have n1_ := Aside0.mk (below_step (bs_ HB GE409.out) hb); clear BK409; clear HB; have BK409 := n0_; have HB := n1_; clear n0_ n1_; (try clear hb); (try clear hb2); (try clear hk); (try clear hi); have hcz78_0 : w77.cell? ⟨gb409, 0, none⟩ = some (.slice A0_0 l0_0.length c0_0) := (blk_cell BK409.out 0).trans rfl; have hcz78_1 : w77.cell? ⟨gb409, 1, none⟩ = some (.slice A0_1 l0_1.length c0_1) := (blk_cell BK409.out 1).trans rfl; have hfz78_0 := blk_frozen BK409.out 0; have hfz78_1 := blk_frozen BK409.out 1) | ((with_reducible refine gate_callee (f := 20) rfl ?_); refine gl_ (some 24) Try.func20 #[.agg #[.slice A0_0 l0_0.length c0_0, .slice A0_1 l0_1.length c0_1], .slice A1 l1.length c1, .slice A3 l3.length c3] ?_; (with_reducible refine (cohousinglaw26_usable.calls k _ _ l0_0 _ _ l0_1 _ _ l1 _ _ l3 true _ ?side1 ?side2 ?side3 ?side4 ?side5 ?side6 ?side7 ?side8 A6.out).mono ?_); (case side1 => exact cc_ ((Kd.C_below HR0_0.out HB.out))); (case side2 => exact HC0_0.out); (case side3 => exact cc_ ((Kd.C_below HR0_1.out HB.out))); (case side4 => exact HC0_1.out); (case side5 => exact cc_ ((Kd.C_below HR1.out HB.out))); (case side6 => exact HC1.out); (case side7 => exact cc_ ((Kd.C_below HR3.out HB.out))); (case side8 => exact HC3.out); rintro e w79 ⟨rfl, hb⟩; refine ⟨_, rfl, ?_⟩; have n0_ := Aside0.mk (blk_below (g := gb409) (o := .cells #[.slice A0_0 l0_0.length c0_0, .slice A0_1 l0_1.length c0_1] 25 (0, 0)) (kk_ BK409) hb); have n1_ := Aside0.mk (below_step (bs_ HB GE409.out) hb); clear BK409; clear HB; have BK409 := n0_; have HB := n1_; clear n0_ n1_; (try clear hb); (try clear hb2); (try clear hk); (try clear hi)))
   have n0_ := Aside0.mk (blk_drew BK409.out)
   have n1_ := Aside0.mk (below_drew1 HB.out)
   clear BK409
   clear HB
   have BK409 := n0_
   have HB := n1_
   clear n0_ n1_
   refine start_ (n := 13) (S := fun w' => w'.cell? ⟨gb409, 0, none⟩ = some (.slice A0_0 l0_0.length c0_0) ∧ w'.cell? ⟨gb409, 1, none⟩ = some (.slice A0_1 l0_1.length c0_1)) (ds := []) #[n_, n_, n_, n_, n_, n_, n_, n_, n_, n_, n_, n_, n_] (by kernel_rfl) rfl rfl ⟨(blk_cell BK409.out 0).trans rfl, (blk_cell BK409.out 1).trans rfl⟩ (fun hHeld => ?_); refine with_tabW cohousinglaw26_ChainAgreement.tab4 cohousinglaw26_ChainAgreement.bits4 (fun HT_ HW_ => ?_)
   generalize w79.drew = w80 at BK409 HB hHeld ⊢
   refine pu_ 1 29 (w_ 13 2) rfl HT_ ?_
   refine pu_ 2 30 (w_ 13 6) rfl HT_ ?_
   refine pu_ 4 32 (w_ 13 22) rfl HT_ ?_
   refine ta_ 0 28 (w_ 13 23) rfl HT_ HW_ hHeld (by rintro w' ⟨s0, s1⟩; go_simp; with_reducible rfl) ?_
   refine one_ (i := 3) (N := some 31) (w_ 13 31) rfl rfl (one_of HT_.out (by kernel_rfl)) (by decide) (fun K hK => ?_)
   refine goes_ Try.func21 (by kernel_rfl) rfl #[.int .u16 a2] (by rfl) rfl rfl (by (try simp only [List.map_toArray, List.map_cons, List.map_nil]); first | done | rfl | (simp only [List.length_drop, List.length_take]; rfl)) ?_
   with_reducible refine (cohousinglaw26_on.calls a2 t412 _ A8.out).mono ?_
   rintro e w' ⟨rfl, ⟨nd, rfl⟩⟩
   refine ⟨_, rfl, ?_⟩
   refine hK.out _ _ ⟨(blk_cell BK409.out 0).trans rfl, (blk_cell BK409.out 1).trans rfl⟩ (fun hHeld => ?_)
   clear hK K
   refine norm_ (a' := ?_) ?_ ?_
   rotate_left
   ·show Act.put _ (some 31) _ = _
    simp only [Act.put, sI_, s0_, sS_, i64_w, i32_w]
    rfl
   refine one_ (i := 5) (N := some 33) (w_ 13 63) rfl rfl (one_of HT_.out (by kernel_rfl)) (by decide) (fun K hK => ?_)
   refine goes_ Try.func13 (by kernel_rfl) rfl #[.agg #[.slice A0_0 l0_0.length c0_0, .slice A0_1 l0_1.length c0_1], .slice A1 l1.length c1, .int .i64 t412, .slice A3 l3.length c3] (by rfl) rfl rfl (by (try simp only [List.map_toArray, List.map_cons, List.map_nil]); first | done | rfl | (simp only [List.length_drop, List.length_take]; rfl)) ?_
   with_reducible refine (chain_Run.calls _ _ l0_0 _ _ l0_1 _ _ l1 t412 _ _ l3 t413 t416 t419 _ ?side1 ?side2 ?side3 ?side4 ?side5 ?side6 ?side7 ?side8 A9.out).mono ?_
   (case side1 => exact cc_ ((Kd.C_below HR0_0.out (bs_ HB GE409.out))))
   (case side2 => exact HC0_0.out)
   (case side3 => exact cc_ ((Kd.C_below HR0_1.out (bs_ HB GE409.out))))
   (case side4 => exact HC0_1.out)
   (case side5 => exact cc_ ((Kd.C_below HR1.out (bs_ HB GE409.out))))
   (case side6 => exact HC1.out)
   (case side7 => exact cc_ ((Kd.C_below HR3.out (bs_ HB GE409.out))))
   (case side8 => exact HC3.out)
   rintro e w81 ⟨v414, v417, rfl, ho0, ho1, hb⟩
   refine ⟨_, rfl, ?_⟩
   have n0_ := Aside0.mk (Kd.R_lower ho0 (below_size (bs_ HB GE409.out)))
   have n1_ := Aside0.mk (Kd.R_lower ho1 (below_size (bs_ HB GE409.out)))
   have n2_ := Aside0.mk (blk_below (g := gb409) (o := .cells #[.slice A0_0 l0_0.length c0_0, .slice A0_1 l0_1.length c0_1] 25 (0, 0)) (kk_ BK409) hb)
   have n3_ := Aside0.mk (below_step (bs_ HB GE409.out) hb)
   clear BK409
   clear HB
   have HO415 := n0_
   have HO418 := n1_
   have BK409 := n2_
   have HB := n3_
   clear n0_ n1_ n2_ n3_
   (try clear hb)
   (try clear hb2)
   (try clear hk)
   (try clear hi)
   (try clear ho0)
   (try clear ho1)
   refine hK.out _ _ ⟨(blk_cell BK409.out 0).trans rfl, (blk_cell BK409.out 1).trans rfl⟩ (fun hHeld => ?_)
   clear hK K
   refine norm_ (a' := ?_) ?_ ?_
   rotate_left
   ·show Act.put _ (some 33) _ = _
    simp only [Act.put, sI_, s0_, sS_, i64_w, i32_w]
    rfl
   refine pu_ 6 27 (w_ 13 127) rfl HT_ ?_
   refine pu_ 7 34 (w_ 13 255) rfl HT_ ?_
   refine pu_ 8 35 (w_ 13 511) rfl HT_ ?_
   refine pu_ 9 36 (w_ 13 1023) rfl HT_ ?_
   refine pu_ 10 10 (w_ 13 2047) rfl HT_ ?_
   refine pu_ 11 11 (w_ 13 4095) rfl HT_ ?_
   refine pu_ 12 12 (w_ 13 8191) rfl HT_ ?_
   refine done_ (done_of HT_.out (by kernel_rfl)) ?_
   try go_wp2
   go_ret
   exact ⟨ew_, by repeat (first | (with_reducible first | exact HB.out | apply below_alloc | apply pw_below_drewN | apply below_drew1 | refine below_set ?_ GE409.out) | exact HB.out)⟩
 ·replace c7 := Bool.eq_false_iff.mpr c7
  subst c7
  have H1 : (some t410) = some r := by rw [if_neg (show ¬ (false = true) by decide)] at H; exact H
  clear H
  have H := H1
  clear H1
  obtain rfl := Option.some.inj H
  go_enter Try.func5, Try.ntmps5
  go_wp2_with (first | ((with_reducible refine gate_dst (N := 4) rfl ?_); (try (refine gate_guard (by rfl) ?_; dsimp only)); refine box_event ?hg (N := 4) ?hd (cs := #[.slice A0_0 l0_0.length c0_0, .slice A0_1 l0_1.length c0_1]) (t := 25) ?hr ?_; (case hd => rfl); (case hg => rfl); (case hr => first | (go_simp; done) | (go_simp; rfl)); intro gb409 hg w82 hbox hb; have n0_ := Aside0.mk (below_step (bb_ HB) hb); have n1_ := Aside0.mk (hbox); have n2_ := Aside0.mk ((by rw [hg]; exact (below_size (bb_ HB)) : w.heap.size ≤ gb409)); have n3_ := Aside0.mk ((by rw [hg]; exact (below_size (bb_ HB)) : w.heap.size ≤ gb409)); clear HB; have HB := n0_; have BK409 := n1_; have GW409 := n2_; have GE409 := n3_; clear n0_ n1_ n2_ n3_; clear hb hbox hg) | ((with_reducible refine gate_callee (f := 10) rfl ?_); refine gl_ (some 20) Try.func10 #[] ?_; (with_reducible refine (cohousinglaw26_head.calls k  t410 _ A5.out).mono ?_); rintro e w83 ⟨rfl, hb⟩; refine ⟨_, rfl, ?_⟩; have n0_ := Aside0.mk (blk_below (g := gb409) (o := .cells #[.slice A0_0 l0_0.length c0_0, .slice A0_1 l0_1.length c0_1] 25 (0, 0)) (kk_ BK409) hb); have n1_ := Aside0.mk (below_step (bs_ HB GE409.out) hb); clear BK409; clear HB; have BK409 := n0_; have HB := n1_; clear n0_ n1_; (try clear hb); (try clear hb2); (try clear hk); (try clear hi); have hcz84_0 : w83.cell? ⟨gb409, 0, none⟩ = some (.slice A0_0 l0_0.length c0_0) := (blk_cell BK409.out 0).trans rfl; have hcz84_1 : w83.cell? ⟨gb409, 1, none⟩ = some (.slice A0_1 l0_1.length c0_1) := (blk_cell BK409.out 1).trans rfl; have hfz84_0 := blk_frozen BK409.out 0; have hfz84_1 := blk_frozen BK409.out 1) | ((with_reducible refine gate_callee (f := 20) rfl ?_); refine gl_ (some 24) Try.func20 #[.agg #[.slice A0_0 l0_0.length c0_0, .slice A0_1 l0_1.length c0_1], .slice A1 l1.length c1, .slice A3 l3.length c3] ?_; (with_reducible refine (cohousinglaw26_usable.calls k _ _ l0_0 _ _ l0_1 _ _ l1 _ _ l3 false _ ?side1 ?side2 ?side3 ?side4 ?side5 ?side6 ?side7 ?side8 A6.out).mono ?_); (case side1 => exact cc_ ((Kd.C_below HR0_0.out HB.out))); (case side2 => exact HC0_0.out); (case side3 => exact cc_ ((Kd.C_below HR0_1.out HB.out))); (case side4 => exact HC0_1.out); (case side5 => exact cc_ ((Kd.C_below HR1.out HB.out))); (case side6 => exact HC1.out); (case side7 => exact cc_ ((Kd.C_below HR3.out HB.out))); (case side8 => exact HC3.out); rintro e w85 ⟨rfl, hb⟩; refine ⟨_, rfl, ?_⟩; have n0_ := Aside0.mk (blk_below (g := gb409) (o := .cells #[.slice A0_0 l0_0.length c0_0, .slice A0_1 l0_1.length c0_1] 25 (0, 0)) (kk_ BK409) hb); have n1_ := Aside0.mk (below_step (bs_ HB GE409.out) hb); clear BK409; clear HB; have BK409 := n0_; have HB := n1_; clear n0_ n1_; (try clear hb); (try clear hb2); (try clear hk); (try clear hi)))
  go_ret
  exact ⟨ew_, by repeat (first | (with_reducible first | exact HB.out | apply below_alloc | apply pw_below_drewN | apply below_drew1 | refine below_set ?_ GE409.out) | exact HB.out)⟩
end
end Go.Proofs.Ytocbiggglnpeoaa.P
end
section
namespace Go.Proofs.Ytocbiggglnpeoaa.P
open Go.RowKit Go.Proofs.YtocbiggglnpeoaaW.PrintWords Go.Proofs.YtocbiggglnpeoaaW.PrintLast Go.Proofs.YtocbiggglnpeoaaW.PrintMore Go.Proofs.YtocbiggglnpeoaaH
open Classical
theorem Told.named {rs : List YT} {due : Int} {r : GT} {n : Nat} {b : Bool} (h : Told rs due r n b) : b = false ↔ ∀ k, k < r.f1.length → agB rs due (mv r.f1 k).f0 = true := by
 cases h with
 | all h => exact ⟨fun _ => h, fun _ => rfl⟩
 | chain n hn _ _ hno => exact ⟨fun h => (by cases h), fun h => (by rw [h n hn] at hno; cases hno)⟩
 | cycle n hn _ hno => exact ⟨fun h => (by cases h), fun h => (by rw [h n hn] at hno; cases hno)⟩
theorem Told.whole {rs : List YT} {due : Int} {r : GT} {n : Nat} {b : Bool} (h : Told rs due r n b) (hb : b = false) : n = r.f1.length := by
 cases h with
 | all _ => rfl
 | chain _ _ _ _ _ => cases hb
 | cycle _ _ _ _ => cases hb
theorem goR_succ (rs : List YT) (due : Int) (l : List GT) (n : Nat) : goR rs due l (n + 1) = goR rs due l n ++ (rg l n).f1.take (nR rs due (rg l n)) := goM_succ _ _ _
theorem goR_pre (rs : List YT) (due : Int) (l : List GT) (n : Nat) : ∀ d, ∃ t, goR rs due l (n + d) = goR rs due l n ++ t ∧ ∀ x ∈ t, ∃ m, n ≤ m ∧ m < n + d ∧ ∃ k, k < nR rs due (rg l m) ∧ x = mv (rg l m).f1 k := by
 intro d
 induction d with
 | zero => exact ⟨[], by simp, fun x hx => by cases hx⟩
 | succ d ih =>
  obtain ⟨t, e, h⟩ := ih
  refine ⟨t ++ (rg l (n + d)).f1.take (nR rs due (rg l (n + d))), by rw [← Nat.add_assoc, goR_succ, e, List.append_assoc], fun x hx => ?_⟩
  rcases List.mem_append.1 hx with hx | hx
  ·obtain ⟨m, h1, h2, h3⟩ := h x hx
   exact ⟨m, h1, by omega, h3⟩
  ·obtain ⟨k, hk, e2⟩ := (mem_take (told_ring rs due (rg l (n + d))).le).1 hx
   exact ⟨n + d, by omega, by omega, k, hk, e2⟩
theorem mv_app_left (a b : List MT) {i : Nat} (h : i < a.length) : mv (a ++ b) i = mv a i := by
 rw [mv_get _ i (by rw [List.length_append]; omega), mv_get a i h, List.getElem_append_left h]
theorem mv_app_right (a b : List MT) {i : Nat} (h : i < b.length) : mv (a ++ b) (a.length + i) = mv b i := by
 rw [mv_get _ _ (by rw [List.length_append]; omega), mv_get b i h, List.getElem_append_right (by omega)]
 congr 1
 omega
theorem mv_take (a : List MT) {i n : Nat} (h : i < n) (hn : n ≤ a.length) : mv (a.take n) i = mv a i := by
 rw [mv_get _ i (by rw [List.length_take]; omega), mv_get a i (by omega), List.getElem_take]
theorem go_at (rs : List YT) (due : Int) (l : List GT) {n k : Nat} (hn : n < l.length) (hk : k < nR rs due (rg l n)) : (goR rs due l n).length + k < (goR rs due l l.length).length ∧ mv (goR rs due l l.length) ((goR rs due l n).length + k) = mv (rg l n).f1 k := by
 obtain ⟨t, e, _⟩ := goR_pre rs due l (n + 1) (l.length - (n + 1))
 rw [show n + 1 + (l.length - (n + 1)) = l.length by omega, goR_succ, List.append_assoc] at e
 have hle := (told_ring rs due (rg l n)).le
 have hl : ((rg l n).f1.take (nR rs due (rg l n))).length = nR rs due (rg l n) := by rw [List.length_take]; exact Nat.min_eq_left hle
 rw [e]
 constructor
 ·rw [List.length_append, List.length_append, hl]; omega
 ·rw [mv_app_right _ _ (by rw [List.length_append, hl]; omega), mv_app_left _ _ (by rw [hl]; exact hk), mv_take _ hk hle]
theorem goR_len_succ (rs : List YT) (due : Int) (l : List GT) (n : Nat) : (goR rs due l (n + 1)).length = (goR rs due l n).length + nR rs due (rg l n) := by
 have hle := (told_ring rs due (rg l n)).le
 rw [goR_succ, List.length_append, List.length_take, Nat.min_eq_left hle]
theorem mem_ahead (l : List GT) {n m k : Nat} (hn : n < m) (hm : m ≤ l.length) {j : Nat} (hj : j < (rg l n).f1.length) : mv (rg l n).f1 j ∈ ahead l m k := by
 unfold ahead
 refine List.mem_append_left _ (List.mem_flatMap.2 ⟨rg l n, ?_, mv_mem hj⟩)
 rw [rg_get l n (by omega)]
 exact List.mem_iff_getElem.2 ⟨n, by rw [List.length_take]; omega, by rw [List.getElem_take]⟩
section
variable {fl : List FT} {pa : List PT} {l : List GT} (hR : RingsR fl pa l)
include hR
theorem go_other (rs : List YT) (due : Int) {n j : Nat} (hn : n < l.length) (hj : j < (rg l n).f1.length) (hlt : (goR rs due l (n + 1)).length < (goR rs due l l.length).length) : mv (goR rs due l l.length) (goR rs due l (n + 1)).length ≠ mv (rg l n).f1 j := by
 obtain ⟨t, e, h⟩ := goR_pre rs due l (n + 1) (l.length - (n + 1))
 rw [show n + 1 + (l.length - (n + 1)) = l.length by omega] at e h
 rw [e, List.length_append] at hlt
 rw [e, show (goR rs due l (n + 1)).length = (goR rs due l (n + 1)).length + 0 from rfl, mv_app_right _ _ (by omega)]
 intro hc
 obtain ⟨m, h1, h2, k, hk, e2⟩ := h _ (mv_mem (show 0 < t.length by omega))
 have hkl := Nat.lt_of_lt_of_le hk (told_ring rs due (rg l m)).le
 refine (nodup_ahead (fun x => x.f0) l).1 hR.homes m h2 k hkl ?_
 rw [← e2, hc]
 exact List.mem_map.2 ⟨_, mem_ahead l (show n < m by omega) (by omega) hj, rfl⟩
end
end Go.Proofs.Ytocbiggglnpeoaa.P
end
section
namespace Go.Proofs.Ytocbiggglnpeoaa.P
open Go.RowKit Go.Proofs.YtocbiggglnpeoaaW.PrintWords Go.Proofs.YtocbiggglnpeoaaW.PrintLast Go.Proofs.YtocbiggglnpeoaaW.PrintMore Go.Proofs.YtocbiggglnpeoaaH
open Classical
section
variable (l : List GT) (a : Int) (rs : List YT) (G : List MT) (B : List Int) (n s N : Nat)
theorem agr_move (m : Nat) (all' : Bool) (y : Bool) (x : MT) (hG : G.length ≤ 20000) (hm : m ≤ 30)
  (hat : m < N → s + m < G.length ∧ mv G (s + m) = x) (hy : m < N → y = true) (hother : s + N < G.length → mv G (s + N) ≠ x)
  (ih : Ev (fun k => cohousinglaw26_ChainAgreement.l1 k l a rs true G B ((s + min (m + 1) N : Nat) : Int) (n : Int) ((min (m + 1) N : Nat) : Int) all' ((m + 1 : Nat) : Int)) true) :
  Ev (fun k => cohousinglaw26_ChainAgreement.j2 k l a rs true G B ((s + min m N : Nat) : Int) (n : Int) ((min m N : Nat) : Int) all' (m : Int) y x.f0 x.f1 x.f2) true := by
 have hsm := wrap_nat (show m ≤ 140737488355328 by omega)
 by_cases hk : m < N
 ·obtain ⟨d1, d2⟩ := hat hk
  have d3 : ((s + m : Nat) : Int) < (G.length : Int) := Int.ofNat_lt.2 d1
  have d4 : (0 : Int) ≤ ((s + m : Nat) : Int) := Int.natCast_nonneg _
  have hsa := wrap_nat (show s + m ≤ 140737488355328 by omega)
  rw [Nat.min_eq_left (show m + 1 ≤ N by omega), ← Nat.add_assoc] at ih
  rw [Nat.min_eq_left (Nat.le_of_lt hk)]
  have d2' : rd_T51 G ((s + m : Nat) : Int) = x := d2
  have hy' := hy hk
  subst hy'
  refine Ev.step ?_
  simp only [cohousinglaw26_ChainAgreement.j2, d3, d4, if_true, d2']
  refine Ev.step ?_
  simp only [cohousinglaw26_ChainAgreement.j3, beq_self_eq_true, Bool.and_self, if_true, hsm, hsa]
  exact ih
 ·have hge : N ≤ m := by omega
  rw [Nat.min_eq_right (show N ≤ m + 1 by omega)] at ih
  rw [Nat.min_eq_right hge]
  have j3 : Ev (fun k => cohousinglaw26_ChainAgreement.j3 k l a rs true G B ((s + N : Nat) : Int) (n : Int) (N : Int) all' (m : Int) y false) true := by
   refine Ev.step ?_
   simp only [cohousinglaw26_ChainAgreement.j3, Bool.false_eq_true, if_false, hsm]
   exact ih
  refine Ev.step ?_
  by_cases d1 : s + N < G.length
  ·have d3 : ((s + N : Nat) : Int) < (G.length : Int) := Int.ofNat_lt.2 d1
   have d4 : (0 : Int) ≤ ((s + N : Nat) : Int) := Int.natCast_nonneg _
   have hb : ((rd_T51 G ((s + N : Nat) : Int)).f0 == x.f0 && ((rd_T51 G ((s + N : Nat) : Int)).f1 == x.f1 && ((rd_T51 G ((s + N : Nat) : Int)).f2 == x.f2))) = false := by
    rw [move_beq]; exact decide_eq_false (hother d1)
   simp only [cohousinglaw26_ChainAgreement.j2, d3, d4, if_true, hb]
   exact j3
  ·have d3 : ¬ (((s + N : Nat) : Int) < (G.length : Int)) := fun h => d1 (Int.ofNat_lt.1 h)
   simp only [cohousinglaw26_ChainAgreement.j2, d3, if_false]
   exact j3
theorem agr_end (z c : Bool) (ms : List MT) (all : Bool) (hl : n < l.length) (hB : B.length ≤ 1000) (hn : n ≤ 1000) (hc : (rg l n).f0 = c) (hms : (rg l n).f1 = ms) (hz : z = all)
  (hin : (decide (inR B (n : Int) < 0)) = all) (hall : all = true → N = ms.length) (hfull : c = false → 0 < N → N = ms.length)
  (ih : Ev (fun k => cohousinglaw26_ChainAgreement.l0 k l a rs true G B (s : Int) ((n + 1 : Nat) : Int)) true) :
  Ev (fun k => cohousinglaw26_ChainAgreement.l1 k l a rs true G B (s : Int) (n : Int) (N : Int) all (ms.length : Int)) true := by
 have h1 : (n : Int) < (l.length : Int) := Int.ofNat_lt.2 hl
 have h2 : (0 : Int) ≤ (n : Int) := Int.natCast_nonneg _
 have hc' : (rd_T49 l (n : Int)).f0 = c := hc
 have hms' : (rd_T49 l (n : Int)).f1 = ms := hms
 have hsn := wrap_nat (show n ≤ 140737488355328 by omega)
 have hfin : Ev (fun k => (cohousingref23_In.f k B (n : Int)).bind fun t => if ((decide (t < 0)) != all) = true then some false else cohousinglaw26_ChainAgreement.l0 k l a rs true G B (s : Int) (wrap64 ((n : Int) + 1))) true := by
  refine Ev.bnd (In_f B (n : Int) (by omega)) ?_
  simp only [hin, bne_self_eq_false, Bool.false_eq_true, if_false, hsn]
  exact ih
 have c1 : ¬ ((ms.length : Int) < (ms.length : Int)) := Int.lt_irrefl _
 refine Ev.step ?_
 cases c with
 | true =>
  cases all with
  | true =>
   have hw := hall rfl
   subst hw
   simp only [cohousinglaw26_ChainAgreement.l1, h1, h2, hc', hms', c1, if_true, if_false]
   exact hfin
  | false =>
   simp only [cohousinglaw26_ChainAgreement.l1, h1, h2, hc', hms', c1, if_true, if_false, Bool.false_eq_true]
   exact hfin
 | false =>
  by_cases h0 : N = 0
  ·subst h0
   have z0 : (((0 : Nat) : Int) = 0) = True := eq_true rfl
   cases all with
   | true =>
    have hw := hall rfl
    have hw0 : (((0 : Nat) : Int) = (ms.length : Int)) = True := eq_true (congrArg Int.ofNat hw)
    simp only [cohousinglaw26_ChainAgreement.l1, h1, h2, hc', hms', c1, z0, hw0, if_true, if_false, Bool.false_eq_true]
    exact hfin
   | false =>
    simp only [cohousinglaw26_ChainAgreement.l1, h1, h2, hc', hms', c1, z0, if_true, if_false, Bool.false_eq_true]
    exact hfin
  ·have hw := hfull rfl (by omega)
   have h0' : ((N : Int) = 0) = False := eq_false (by omega)
   have hw' : ((N : Int) = (ms.length : Int)) = True := eq_true (congrArg Int.ofNat hw)
   cases all with
   | true =>
    simp only [cohousinglaw26_ChainAgreement.l1, h1, h2, hc', hms', c1, h0', hw', if_true, if_false, Bool.false_eq_true]
    exact hfin
   | false =>
    simp only [cohousinglaw26_ChainAgreement.l1, h1, h2, hc', hms', c1, h0', hw', if_true, if_false, Bool.false_eq_true]
    exact hfin
theorem agr_ring (ms : List MT) (day : Int) (ha : 0 ≤ a ∧ a ≤ 65535) (hday : day = a % 36525) (hl : n < l.length) (hB : B.length ≤ 1000) (hn : n ≤ 1000) (hG : G.length ≤ 20000) (hrs : rs.length ≤ 1000) (hms : (rg l n).f1 = ms) (hlen : ms.length ≤ 30) (hN : N ≤ ms.length)
  (hat : ∀ k, k < N → s + k < G.length ∧ mv G (s + k) = mv ms k) (hyes : ∀ k, k < N → agB rs day (mv ms k).f0 = true) (hother : ∀ j, j < ms.length → s + N < G.length → mv G (s + N) ≠ mv ms j)
  (hnamed : inR B (n : Int) < 0 ↔ ∀ k, k < ms.length → agB rs day (mv ms k).f0 = true) (hwhole : (∀ k, k < ms.length → agB rs day (mv ms k).f0 = true) → N = ms.length) (hfull : (rg l n).f0 = false → 0 < N → N = ms.length)
  (ih : Ev (fun k => cohousinglaw26_ChainAgreement.l0 k l a rs true G B ((s + N : Nat) : Int) ((n + 1 : Nat) : Int)) true) :
  ∀ m, m ≤ ms.length → ∀ all : Bool, (all = true ↔ ∀ k, k < m → agB rs day (mv ms k).f0 = true) →
   Ev (fun k => cohousinglaw26_ChainAgreement.l1 k l a rs true G B ((s + min m N : Nat) : Int) (n : Int) ((min m N : Nat) : Int) all (m : Int)) true := by
 refine loopUp ms.length _ ?_ ?_
 ·intro all hall
  rw [Nat.min_eq_right hN]
  refine agr_end l a rs G B n (s + N) N all (rg l n).f0 ms all hl hB hn rfl hms rfl ?_ (fun h => hwhole (hall.1 h)) hfull ih
  rw [Bool.eq_iff_iff, decide_eq_true_iff, hnamed, hall]
 ·intro m hm ihm all hall
  have h1 : (n : Int) < (l.length : Int) := Int.ofNat_lt.2 hl
  have h2 : (0 : Int) ≤ (n : Int) := Int.natCast_nonneg _
  have hms' : (rd_T49 l (n : Int)).f1 = ms := hms
  have c1 : (m : Int) < (ms.length : Int) := Int.ofNat_lt.2 hm
  have c2 : (0 : Int) ≤ (m : Int) := Int.natCast_nonneg _
  have hx : rd_T51 ms (m : Int) = mv ms m := rfl
  have hon := on_f ha.1 ha.2
  rw [← hday] at hon
  have hup : (agB rs day (mv ms m).f0 = true ∧ ∀ k, k < m → agB rs day (mv ms k).f0 = true) ↔ ∀ k, k < m + 1 → agB rs day (mv ms k).f0 = true := by
   constructor
   ·rintro ⟨hx, hy⟩ k hk
    by_cases e : k = m
    ·rw [e]; exact hx
    ·exact hy k (by omega)
   ·intro h
    exact ⟨h m (by omega), fun k hk => h k (by omega)⟩
  have go : ∀ all' : Bool, (all' = true ↔ ∀ k, k < m + 1 → agB rs day (mv ms k).f0 = true) → Ev (fun k => cohousinglaw26_ChainAgreement.j2 k l a rs true G B ((s + min m N : Nat) : Int) (n : Int) ((min m N : Nat) : Int) all' (m : Int) (agB rs day (mv ms m).f0) (mv ms m).f0 (mv ms m).f1 (mv ms m).f2) true := fun all' hall' =>
   agr_move l a rs G B n s N m all' (agB rs day (mv ms m).f0) (mv ms m) hG (by omega) (hat m) (hyes m) (hother m hm) (ihm all' hall')
  refine Ev.step ?_
  simp only [cohousinglaw26_ChainAgreement.l1, h1, h2, hms', c1, c2, if_true, hon, Option.bind_some, hx]
  refine Ev.bnd (Agrees_f rs (mv ms m).f0 day (by omega)) ?_
  cases all with
  | true =>
   simp only [if_true]
   exact go _ ⟨fun h => hup.1 ⟨h, hall.1 rfl⟩, fun h => (hup.2 h).1⟩
  | false =>
   simp only [Bool.false_eq_true, if_false]
   exact go _ ⟨fun h => (by cases h), fun h => (by have := hall.2 (hup.2 h).2; cases this)⟩
end
theorem agreement_ (fl : List FT) (pa : List PT) (l : List GT) (a : Int) (rs : List YT) (ha : 0 ≤ a ∧ a ≤ 65535) : Ev (fun k => cohousinglaw26_ChainAgreement.f k fl pa l a rs) true := by
 unfold cohousinglaw26_ChainAgreement.f
 refine Ev.bnd head26 ?_
 refine Ev.bnd (usable_f fl pa l rs) ?_
 by_cases U : Usable fl pa l rs
 case neg =>
  simp only [decide_eq_false U, Bool.false_eq_true, if_false]
  exact Ev.pure _
 obtain ⟨day, hday⟩ : ∃ d, d = a % 36525 := ⟨_, rfl⟩
 have hd : 0 ≤ day ∧ day ≤ 36524 := by omega
 have hon := on_f ha.1 ha.2
 rw [← hday] at hon
 have e1 := runR_ok U.m U.r U.y hd.1 hd.2
 have e2 := Run_f (rs := rs) day U.fm U.fr.len U.fr.m (by have := U.fr.r; omega)
 rw [e1] at e2
 simp only [decide_eq_true U, if_true, hon, Option.bind_some, e2]
 have hlr := U.fr.len
 have hrr := U.fr.r
 have hgl := go_few (rs := rs) (due := day) U.fr.len U.fr.m
 have hbl : (brR rs day l l.length).length ≤ 1000 := by have := brM_len (repM rs day rs.length) l l.length; show (brM _ l l.length).length ≤ _; omega
 have hin : ∀ n, n < l.length → (inR (brR rs day l l.length) (n : Int) < 0 ↔ bR rs day (rg l n) = false) := by
  intro n hn
  rw [inR_neg, mem_brR]
  constructor
  ·intro h
   cases hb : bR rs day (rg l n) with
   | false => rfl
   | true => exact absurd ⟨n, hn, hb, rfl⟩ h
  ·rintro hb ⟨m, hm, hb', e⟩
   have : n = m := by omega
   subst this
   rw [hb] at hb'
   cases hb'
 have key : ∀ n, n ≤ l.length → Ev (fun k => cohousinglaw26_ChainAgreement.l0 k l a rs true (goR rs day l l.length) (brR rs day l l.length) ((goR rs day l n).length : Int) (n : Int)) true := by
  refine loopUp l.length _ ?_ ?_
  ·have h1 : ¬ (((l.length : Nat) : Int) < (l.length : Int)) := Int.lt_irrefl _
   refine Ev.step ?_
   simp only [cohousinglaw26_ChainAgreement.l0, h1, if_true, if_false, beq_self_eq_true]
   exact Ev.pure _
  ·intro n hlt ih
   have h1 : (n : Int) < (l.length : Int) := Int.ofNat_lt.2 hlt
   have ht := told_ring rs day (rg l n)
   have hother := fun j hj h => go_other U.r rs day (n := n) (j := j) hlt hj h
   rw [goR_len_succ] at ih hother
   have := agr_ring l a rs (goR rs day l l.length) (brR rs day l l.length) n (goR rs day l n).length (nR rs day (rg l n)) (rg l n).f1 day ha hday hlt hbl (by omega) hgl (by omega) rfl (U.fr.m n hlt) ht.le
    (fun k hk => go_at rs day l hlt hk) ht.yes hother ((hin n hlt).trans ht.named) (fun h => ht.whole (ht.named.2 h)) (fun hc h0 => ht.full hc h0) ih 0 (Nat.zero_le _) true ⟨fun _ k hk => absurd hk (Nat.not_lt_zero _), fun _ => rfl⟩
   rw [Nat.min_eq_left (Nat.zero_le _), Nat.add_zero] at this
   refine Ev.step ?_
   simp only [cohousinglaw26_ChainAgreement.l0, h1, if_true]
   exact this
 exact key 0 (Nat.zero_le _)
end Go.Proofs.Ytocbiggglnpeoaa.P
end
