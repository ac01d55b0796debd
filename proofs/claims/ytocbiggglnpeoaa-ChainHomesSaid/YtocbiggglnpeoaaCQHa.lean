/- Part 1 of the proof of ChainHomes: what it alone needs. -/
import Derived.Test.YtocbiggglnpeoaaCQf
set_option linter.unusedVariables false
set_option linter.unusedSimpArgs false
section
namespace Go.Proofs.Ytocbiggglnpeoaa.P
open Go.RowKit Go.Proofs.YtocbiggglnpeoaaW.PrintWords Go.Proofs.YtocbiggglnpeoaaW.PrintLast Go.Proofs.YtocbiggglnpeoaaW.PrintMore
attribute [local go_sem] max2_int min2_int max_two min_two max_three min_three max_four min_four
set_option linter.unusedVariables false
set_option linter.unusedSimpArgs false
set_option maxHeartbeats 8000000
set_option maxRecDepth 100000
section
mutual
def cohousinglaw26_ChainHomes.j0 : Nat → Bool → Bool → List (S84) → List (S46) → List (S84) → List (S46) → Option (Bool)
 | 0, _, _, _, _, _, _ => none
 | k + 1, x9, x58, x386000, x386001, x404000, x404001 => if x58 = true then (some false) else (cohousinglaw26_ChainHomes.l0 k x9 0 x386000 x386001 x404000 x404001)
def cohousinglaw26_ChainHomes.l0 : Nat → Bool → Int → List (S84) → List (S46) → List (S84) → List (S46) → Option (Bool)
 | 0, _, _, _, _, _, _ => none
 | k + 1, x9, x15, x386000, x386001, x404000, x404001 => if x15 < (x386001.length : Int) then (if 0 ≤ x15 then (if x15 < (x404001.length : Int) then (if ((rd_T46 x404001 x15).f0) = ((rd_T46 x386001 x15).f0) then (if ((rd_T46 x386001 x15).f1) = 0 then (cohousinglaw26_ChainHomes.l0 k x9 (wrap64 (x15 + 1)) x386000 x386001 x404000 x404001) else (if ((rd_T46 x404001 x15).f1) = 0 then (some false) else (cohousinglaw26_ChainHomes.l0 k x9 (wrap64 (x15 + 1)) x386000 x386001 x404000 x404001))) else (some false)) else (none)) else (none)) else (some x9)
end
def cohousinglaw26_ChainHomes.f (k : Nat) (l0_0 : List (S84)) (l0_1 : List (S46)) (l1 : List (S49)) (a2 : Int) (l3 : List (S55)) : Option (Bool) := (cohousinglaw26_head.f k).bind fun t386 => ((cohousinglaw26_usable.f k l0_0 l0_1 l1 l3).bind fun t387 => (if t387 = true then ((cohousinglaw26_on.f a2).bind fun t388 => ((chain_Run.f l0_0 l0_1 l1 t388 l3).bind fun bt389 => ((chain_Next.f l0_0 l0_1 bt389.1 ([] : List Int)).bind fun bt396 => (if bt389.2.2 = 0 then (if bt396.2.2 = 0 then ((market_Valid.f bt396.1 bt396.2.1).bind fun t404 => (if t404 = true then (cohousinglaw26_ChainHomes.j0 k t386 ((bt396.2.1.length : Int) != (l0_1.length : Int)) l0_0 l0_1 bt396.1 bt396.2.1) else (cohousinglaw26_ChainHomes.j0 k t386 true l0_0 l0_1 bt396.1 bt396.2.1))) else (cohousinglaw26_ChainHomes.j0 k t386 true l0_0 l0_1 bt396.1 bt396.2.1)) else (cohousinglaw26_ChainHomes.j0 k t386 true l0_0 l0_1 bt396.1 bt396.2.1))))) else (some t386)))
def cohousinglaw26_ChainHomes.T4 : Bool × List (List Nat × List Nat) := (true, [([], []), ([], []), ([], []), ([2], [2]), ([], []), ([0, 1, 3, 4, 3], [0, 1, 3, 4]), ([5], [5]), ([6], [6]), ([6], [6]), ([6], [6]), ([7, 5, 0, 1, 2, 3, 4, 5, 6, 7], [7]), ([8, 10, 0, 1, 2, 3, 4, 5, 6, 7, 8, 10], [8]), ([9, 11, 0, 1, 2, 3, 4, 5, 6, 7, 8, 9, 10, 11], [9])])
def cohousinglaw26_ChainHomes.B4 : List Nat := [0, 0, 0, 4, 0, 31, 63, 127, 127, 127, 255, 1535, 4095]
theorem cohousinglaw26_ChainHomes.tab4 : rtab .any (opsOf Try.f4 4) = cohousinglaw26_ChainHomes.T4 := by kernel_rfl
theorem cohousinglaw26_ChainHomes.bits4 : waitsOk cohousinglaw26_ChainHomes.T4.2 cohousinglaw26_ChainHomes.B4 = true := by kernel_rfl
def cohousinglaw26_ChainHomes.T11 : Bool × List (List Nat × List Nat) := (true, [([], []), ([0], [0]), ([], []), ([1, 2], [1, 2]), ([3], [3]), ([4], [4]), ([], []), ([6], [6]), ([], []), ([7, 8], [7, 8]), ([9], [9]), ([10], [10]), ([5, 11], [5, 11]), ([12], [12]), ([13], [13]), ([14, 13], [13, 14]), ([13], [13]), ([15, 16, 13], [13, 15, 16]), ([17, 13], [13, 17]), ([18, 13], [13, 18]), ([19, 13], [13, 19]), ([20, 13, 13], [13, 20]), ([21], [21]), ([22, 21], [21, 22]), ([21], [21]), ([23, 24, 21], [21, 23, 24]), ([25, 21], [21, 25]), ([26, 21], [21, 26]), ([27, 21], [21, 27]), ([21, 28, 13], [13, 21, 28]), ([13, 29], [13, 29])])
def cohousinglaw26_ChainHomes.B11 : List Nat := [0, 1, 0, 7, 15, 31, 0, 64, 0, 448, 960, 1984, 4095, 8191, 16383, 32767, 16383, 131071, 262143, 524287, 1048575, 2097151, 4194303, 8388607, 4194303, 33554431, 67108863, 134217727, 268435455, 536870911, 1073741823]
theorem cohousinglaw26_ChainHomes.tab11 : rtab .any (opsOf Try.f4 11) = cohousinglaw26_ChainHomes.T11 := by kernel_rfl
theorem cohousinglaw26_ChainHomes.bits11 : waitsOk cohousinglaw26_ChainHomes.T11.2 cohousinglaw26_ChainHomes.B11 = true := by kernel_rfl
theorem cohousinglaw26_ChainHomes.calls (k : Nat) (A0_0 : Option Addr) (c0_0 : Nat) (l0_0 : List (S84)) (A0_1 : Option Addr) (c0_1 : Nat) (l0_1 : List (S46)) (A1 : Option Addr) (c1 : Nat) (l1 : List (S49)) (a2 : Int) (A3 : Option Addr) (c3 : Nat) (l3 : List (S55)) (r : Bool) (w : World) (hr0_0 : Kd.C k84 w A0_0 l0_0.length l0_0) (hc0_0 : l0_0.length ≤ c0_0) (hr0_1 : Kd.C k46 w A0_1 l0_1.length l0_1) (hc0_1 : l0_1.length ≤ c0_1) (hr1 : Kd.C k49 w A1 l1.length l1) (hc1 : l1.length ≤ c1) (hr3 : Kd.C k55 w A3 l3.length l3) (hc3 : l3.length ≤ c3) (h : cohousinglaw26_ChainHomes.f k l0_0 l0_1 l1 a2 l3 = some r) :
  Calls Try.prog 4 #[.agg #[.slice A0_0 l0_0.length c0_0, .slice A0_1 l0_1.length c0_1], .slice A1 l1.length c1, .int .u16 a2, .slice A3 l3.length c3] w fun e w' => e = .returned (.bool r) ∧ Below w.heap.size w w' := by
 have hu25 := Try.underlying25
 have HR0_0 := Aside0.mk hr0_0
 have HC0_0 := Aside0.mk hc0_0
 clear hr0_0 hc0_0
 have HR0_1 := Aside0.mk hr0_1
 have HC0_1 := Aside0.mk hc0_1
 clear hr0_1 hc0_1
 have HR1 := Aside0.mk hr1
 have HC1 := Aside0.mk hc1
 clear hr1 hc1
 have HR3 := Aside0.mk hr3
 have HC3 := Aside0.mk hc3
 clear hr3 hc3
 have HB := Aside0.mk (Below.refl w.heap.size w)
 have H : ((cohousinglaw26_head.f k).bind fun t386 => ((cohousinglaw26_usable.f k l0_0 l0_1 l1 l3).bind fun t387 => (if t387 = true then ((cohousinglaw26_on.f a2).bind fun t388 => ((chain_Run.f l0_0 l0_1 l1 t388 l3).bind fun bt389 => ((chain_Next.f l0_0 l0_1 bt389.1 ([] : List Int)).bind fun bt396 => (if bt389.2.2 = 0 then (if bt396.2.2 = 0 then ((market_Valid.f bt396.1 bt396.2.1).bind fun t404 => (if t404 = true then (cohousinglaw26_ChainHomes.j0 k t386 ((bt396.2.1.length : Int) != (l0_1.length : Int)) l0_0 l0_1 bt396.1 bt396.2.1) else (cohousinglaw26_ChainHomes.j0 k t386 true l0_0 l0_1 bt396.1 bt396.2.1))) else (cohousinglaw26_ChainHomes.j0 k t386 true l0_0 l0_1 bt396.1 bt396.2.1)) else (cohousinglaw26_ChainHomes.j0 k t386 true l0_0 l0_1 bt396.1 bt396.2.1))))) else (some t386)))) = some r := h
 clear h
 replace H := Option.bind_eq_some_iff.mp H
 obtain ⟨t386, A50, H⟩ := H
 replace H : ((cohousinglaw26_usable.f k l0_0 l0_1 l1 l3).bind fun t387 => (if t387 = true then ((cohousinglaw26_on.f a2).bind fun t388 => ((chain_Run.f l0_0 l0_1 l1 t388 l3).bind fun bt389 => ((chain_Next.f l0_0 l0_1 bt389.1 ([] : List Int)).bind fun bt396 => (if bt389.2.2 = 0 then (if bt396.2.2 = 0 then ((market_Valid.f bt396.1 bt396.2.1).bind fun t404 => (if t404 = true then (cohousinglaw26_ChainHomes.j0 k t386 ((bt396.2.1.length : Int) != (l0_1.length : Int)) l0_0 l0_1 bt396.1 bt396.2.1) else (cohousinglaw26_ChainHomes.j0 k t386 true l0_0 l0_1 bt396.1 bt396.2.1))) else (cohousinglaw26_ChainHomes.j0 k t386 true l0_0 l0_1 bt396.1 bt396.2.1)) else (cohousinglaw26_ChainHomes.j0 k t386 true l0_0 l0_1 bt396.1 bt396.2.1))))) else (some t386))) = some r := H
 have A5 := Aside0.mk A50
 clear A50
 replace H := Option.bind_eq_some_iff.mp H
 obtain ⟨t387, A60, H⟩ := H
 replace H : (if t387 = true then ((cohousinglaw26_on.f a2).bind fun t388 => ((chain_Run.f l0_0 l0_1 l1 t388 l3).bind fun bt389 => ((chain_Next.f l0_0 l0_1 bt389.1 ([] : List Int)).bind fun bt396 => (if bt389.2.2 = 0 then (if bt396.2.2 = 0 then ((market_Valid.f bt396.1 bt396.2.1).bind fun t404 => (if t404 = true then (cohousinglaw26_ChainHomes.j0 k t386 ((bt396.2.1.length : Int) != (l0_1.length : Int)) l0_0 l0_1 bt396.1 bt396.2.1) else (cohousinglaw26_ChainHomes.j0 k t386 true l0_0 l0_1 bt396.1 bt396.2.1))) else (cohousinglaw26_ChainHomes.j0 k t386 true l0_0 l0_1 bt396.1 bt396.2.1)) else (cohousinglaw26_ChainHomes.j0 k t386 true l0_0 l0_1 bt396.1 bt396.2.1))))) else (some t386)) = some r := H
 have A6 := Aside0.mk A60
 clear A60
 by_cases c7 : t387 = true
 ·subst c7
  have H1 : ((cohousinglaw26_on.f a2).bind fun t388 => ((chain_Run.f l0_0 l0_1 l1 t388 l3).bind fun bt389 => ((chain_Next.f l0_0 l0_1 bt389.1 ([] : List Int)).bind fun bt396 => (if bt389.2.2 = 0 then (if bt396.2.2 = 0 then ((market_Valid.f bt396.1 bt396.2.1).bind fun t404 => (if t404 = true then (cohousinglaw26_ChainHomes.j0 k t386 ((bt396.2.1.length : Int) != (l0_1.length : Int)) l0_0 l0_1 bt396.1 bt396.2.1) else (cohousinglaw26_ChainHomes.j0 k t386 true l0_0 l0_1 bt396.1 bt396.2.1))) else (cohousinglaw26_ChainHomes.j0 k t386 true l0_0 l0_1 bt396.1 bt396.2.1)) else (cohousinglaw26_ChainHomes.j0 k t386 true l0_0 l0_1 bt396.1 bt396.2.1))))) = some r := by rw [if_pos rfl] at H; exact H
  clear H
  have H := H1
  clear H1
  replace H := Option.bind_eq_some_iff.mp H
  obtain ⟨t388, A80, H⟩ := H
  replace H : ((chain_Run.f l0_0 l0_1 l1 t388 l3).bind fun bt389 => ((chain_Next.f l0_0 l0_1 bt389.1 ([] : List Int)).bind fun bt396 => (if bt389.2.2 = 0 then (if bt396.2.2 = 0 then ((market_Valid.f bt396.1 bt396.2.1).bind fun t404 => (if t404 = true then (cohousinglaw26_ChainHomes.j0 k t386 ((bt396.2.1.length : Int) != (l0_1.length : Int)) l0_0 l0_1 bt396.1 bt396.2.1) else (cohousinglaw26_ChainHomes.j0 k t386 true l0_0 l0_1 bt396.1 bt396.2.1))) else (cohousinglaw26_ChainHomes.j0 k t386 true l0_0 l0_1 bt396.1 bt396.2.1)) else (cohousinglaw26_ChainHomes.j0 k t386 true l0_0 l0_1 bt396.1 bt396.2.1)))) = some r := H
  have A8 := Aside0.mk A80
  clear A80
  replace H := Option.bind_eq_some_iff.mp H
  obtain ⟨⟨t389, t392, t395⟩, A90, H⟩ := H
  replace H : ((chain_Next.f l0_0 l0_1 t389 ([] : List Int)).bind fun bt396 => (if t395 = 0 then (if bt396.2.2 = 0 then ((market_Valid.f bt396.1 bt396.2.1).bind fun t404 => (if t404 = true then (cohousinglaw26_ChainHomes.j0 k t386 ((bt396.2.1.length : Int) != (l0_1.length : Int)) l0_0 l0_1 bt396.1 bt396.2.1) else (cohousinglaw26_ChainHomes.j0 k t386 true l0_0 l0_1 bt396.1 bt396.2.1))) else (cohousinglaw26_ChainHomes.j0 k t386 true l0_0 l0_1 bt396.1 bt396.2.1)) else (cohousinglaw26_ChainHomes.j0 k t386 true l0_0 l0_1 bt396.1 bt396.2.1))) = some r := H
  have A9 := Aside0.mk A90
  clear A90
  replace H := Option.bind_eq_some_iff.mp H
  obtain ⟨⟨t396, t399, t402⟩, A100, H⟩ := H
  replace H : (if t395 = 0 then (if t402 = 0 then ((market_Valid.f t396 t399).bind fun t404 => (if t404 = true then (cohousinglaw26_ChainHomes.j0 k t386 ((t399.length : Int) != (l0_1.length : Int)) l0_0 l0_1 t396 t399) else (cohousinglaw26_ChainHomes.j0 k t386 true l0_0 l0_1 t396 t399))) else (cohousinglaw26_ChainHomes.j0 k t386 true l0_0 l0_1 t396 t399)) else (cohousinglaw26_ChainHomes.j0 k t386 true l0_0 l0_1 t396 t399)) = some r := H
  have A10 := Aside0.mk A100
  clear A100
  have HC11 := Aside0.mk H
  clear H
  go_enter Try.func4, Try.ntmps4
  try go_wp2_with (first | ((with_reducible refine gate_dst (N := 4) rfl ?_); (try (refine gate_guard (by rfl) ?_; dsimp only)); refine box_event ?hg (N := 4) ?hd (cs := #[.slice A0_0 l0_0.length c0_0, .slice A0_1 l0_1.length c0_1]) (t := 25) ?hr ?_; (case hd => rfl); (case hg => rfl); (case hr => first | (go_simp; done) | (go_simp; rfl)); intro gb385 hg w12 hbox hb; have n0_ := Aside0.mk (below_step (bb_ HB) hb); have n1_ := Aside0.mk (hbox); have n2_ := Aside0.mk ((by rw [hg]; exact (below_size (bb_ HB)) : w.heap.size ≤ gb385)); have n3_ := Aside0.mk ((by rw [hg]; exact (below_size (bb_ HB)) : w.heap.size ≤ gb385)); clear HB; have HB := n0_; have BK385 := n1_; have GW385 := n2_; have GE385 := n3_; clear n0_ n1_ n2_ n3_; clear hb hbox hg) | ((with_reducible refine gate_callee (f := 10) rfl ?_); refine gl_ (some 16) Try.func10 #[] ?_; (with_reducible refine (cohousinglaw26_head.calls k  t386 _ A5.out).mono ?_); rintro e w13 ⟨rfl, hb⟩; refine ⟨_, rfl, ?_⟩; have n0_ := Aside0.mk (blk_below (g := gb385) (o := .cells #[.slice A0_0 l0_0.length c0_0, .slice A0_1 l0_1.length c0_1] 25 (0, 0)) (kk_ BK385) hb); have n1_ := Aside0.mk (below_step (bs_ HB GE385.out) hb); clear BK385; clear HB; have BK385 := n0_; have HB := n1_; clear n0_ n1_; (try clear hb); (try clear hb2); (try clear hk); (try clear hi); have hcz14_0 : w13.cell? ⟨gb385, 0, none⟩ = some (.slice A0_0 l0_0.length c0_0) := (blk_cell BK385.out 0).trans rfl; have hcz14_1 : w13.cell? ⟨gb385, 1, none⟩ = some (.slice A0_1 l0_1.length c0_1) := (blk_cell BK385.out 1).trans rfl; have hfz14_0 := blk_frozen BK385.out 0; have hfz14_1 := blk_frozen BK385.out 1) | ((with_reducible refine gate_callee (f := 20) rfl ?_); refine gl_ (some 20) Try.func20 #[.agg #[.slice A0_0 l0_0.length c0_0, .slice A0_1 l0_1.length c0_1], .slice A1 l1.length c1, .slice A3 l3.length c3] ?_; (with_reducible refine (cohousinglaw26_usable.calls k _ _ l0_0 _ _ l0_1 _ _ l1 _ _ l3 true _ ?side1 ?side2 ?side3 ?side4 ?side5 ?side6 ?side7 ?side8 A6.out).mono ?_); (case side1 => exact cc_ ((Kd.C_below HR0_0.out HB.out))); (case side2 => exact HC0_0.out); (case side3 => exact cc_ ((Kd.C_below HR0_1.out HB.out))); (case side4 => exact HC0_1.out); (case side5 => exact cc_ ((Kd.C_below HR1.out HB.out))); (case side6 => exact HC1.out); (case side7 => exact cc_ ((Kd.C_below HR3.out HB.out))); (case side8 => exact HC3.out); rintro e w15 ⟨rfl, hb⟩; refine ⟨_, rfl, ?_⟩; have n0_ := Aside0.mk (blk_below (g := gb385) (o := .cells #[.slice A0_0 l0_0.length c0_0, .slice A0_1 l0_1.length c0_1] 25 (0, 0)) (kk_ BK385) hb); have n1_ := Aside0.mk (below_step (bs_ HB GE385.out) hb); clear BK385; clear HB; have BK385 := n0_; have HB := n1_; clear n0_ n1_; (try clear hb); (try clear hb2); (try clear hk); (try clear hi)))
  have n0_ := Aside0.mk (blk_drew BK385.out)
  have n1_ := Aside0.mk (below_drew1 HB.out)
  clear BK385
  clear HB
  have BK385 := n0_
  have HB := n1_
  clear n0_ n1_
  refine start_ (n := 13) (S := fun w' => w'.cell? ⟨gb385, 0, none⟩ = some (.slice A0_0 l0_0.length c0_0) ∧ w'.cell? ⟨gb385, 1, none⟩ = some (.slice A0_1 l0_1.length c0_1)) (ds := []) #[n_, n_, n_, n_, n_, n_, n_, n_, n_, n_, n_, n_, n_] (by kernel_rfl) rfl rfl ⟨(blk_cell BK385.out 0).trans rfl, (blk_cell BK385.out 1).trans rfl⟩ (fun hHeld => ?_); refine with_tabW cohousinglaw26_ChainHomes.tab4 cohousinglaw26_ChainHomes.bits4 (fun HT_ HW_ => ?_)
  generalize w15.drew = w16 at BK385 HB hHeld ⊢
  refine pu_ 1 25 (w_ 13 2) rfl HT_ ?_
  refine pu_ 2 26 (w_ 13 6) rfl HT_ ?_
  refine pu_ 4 28 (w_ 13 22) rfl HT_ ?_
  refine ta_ 0 24 (w_ 13 23) rfl HT_ HW_ hHeld (by rintro w' ⟨s0, s1⟩; go_simp; with_reducible rfl) ?_
  refine one_ (i := 3) (N := some 27) (w_ 13 31) rfl rfl (one_of HT_.out (by kernel_rfl)) (by decide) (fun K hK => ?_)
  refine goes_ Try.func21 (by kernel_rfl) rfl #[.int .u16 a2] (by rfl) rfl rfl (by (try simp only [List.map_toArray, List.map_cons, List.map_nil]); first | done | rfl | (simp only [List.length_drop, List.length_take]; rfl)) ?_
  with_reducible refine (cohousinglaw26_on.calls a2 t388 _ A8.out).mono ?_
  rintro e w' ⟨rfl, ⟨nd, rfl⟩⟩
  refine ⟨_, rfl, ?_⟩
  refine hK.out _ _ ⟨(blk_cell BK385.out 0).trans rfl, (blk_cell BK385.out 1).trans rfl⟩ (fun hHeld => ?_)
  clear hK K
  refine norm_ (a' := ?_) ?_ ?_
  rotate_left
  ·show Act.put _ (some 27) _ = _
   simp only [Act.put, sI_, s0_, sS_, i64_w, i32_w]
   rfl
  refine one_ (i := 5) (N := some 29) (w_ 13 63) rfl rfl (one_of HT_.out (by kernel_rfl)) (by decide) (fun K hK => ?_)
  refine goes_ Try.func13 (by kernel_rfl) rfl #[.agg #[.slice A0_0 l0_0.length c0_0, .slice A0_1 l0_1.length c0_1], .slice A1 l1.length c1, .int .i64 t388, .slice A3 l3.length c3] (by rfl) rfl rfl (by (try simp only [List.map_toArray, List.map_cons, List.map_nil]); first | done | rfl | (simp only [List.length_drop, List.length_take]; rfl)) ?_
  with_reducible refine (chain_Run.calls _ _ l0_0 _ _ l0_1 _ _ l1 t388 _ _ l3 t389 t392 t395 _ ?side1 ?side2 ?side3 ?side4 ?side5 ?side6 ?side7 ?side8 A9.out).mono ?_
  (case side1 => exact cc_ ((Kd.C_below HR0_0.out (bs_ HB GE385.out))))
  (case side2 => exact HC0_0.out)
  (case side3 => exact cc_ ((Kd.C_below HR0_1.out (bs_ HB GE385.out))))
  (case side4 => exact HC0_1.out)
  (case side5 => exact cc_ ((Kd.C_below HR1.out (bs_ HB GE385.out))))
  (case side6 => exact HC1.out)
  (case side7 => exact cc_ ((Kd.C_below HR3.out (bs_ HB GE385.out))))
  (case side8 => exact HC3.out)
  rintro e w17 ⟨v390, v393, rfl, ho0, ho1, hb⟩
  refine ⟨_, rfl, ?_⟩
  have n0_ := Aside0.mk (Kd.R_lower ho0 (below_size (bs_ HB GE385.out)))
  have n1_ := Aside0.mk (Kd.R_lower ho1 (below_size (bs_ HB GE385.out)))
  have n2_ := Aside0.mk (blk_below (g := gb385) (o := .cells #[.slice A0_0 l0_0.length c0_0, .slice A0_1 l0_1.length c0_1] 25 (0, 0)) (kk_ BK385) hb)
  have n3_ := Aside0.mk (below_step (bs_ HB GE385.out) hb)
  clear BK385
  clear HB
  have HO391 := n0_
  have HO394 := n1_
  have BK385 := n2_
  have HB := n3_
  clear n0_ n1_ n2_ n3_
  (try clear hb)
  (try clear hb2)
  (try clear hk)
  (try clear hi)
  (try clear ho0)
  (try clear ho1)
  refine hK.out _ _ ⟨(blk_cell BK385.out 0).trans rfl, (blk_cell BK385.out 1).trans rfl⟩ (fun hHeld => ?_)
  clear hK K
  refine norm_ (a' := ?_) ?_ ?_
  rotate_left
  ·show Act.put _ (some 29) _ = _
   simp only [Act.put, sI_, s0_, sS_, i64_w, i32_w]
   rfl
  refine pu_ 6 23 (w_ 13 127) rfl HT_ ?_
  refine pu_ 7 30 (w_ 13 255) rfl HT_ ?_
  refine pu_ 8 31 (w_ 13 511) rfl HT_ ?_
  refine pu_ 9 32 (w_ 13 1023) rfl HT_ ?_
  refine pu_ 10 10 (w_ 13 2047) rfl HT_ ?_
  refine pu_ 11 11 (w_ 13 4095) rfl HT_ ?_
  refine pu_ 12 12 (w_ 13 8191) rfl HT_ ?_
  refine done_ (done_of HT_.out (by kernel_rfl)) ?_
  have hcz18_0 : w17.cell? ⟨gb385, 0, none⟩ = some (.slice A0_0 l0_0.length c0_0) := (blk_cell BK385.out 0).trans rfl
  have hcz18_1 : w17.cell? ⟨gb385, 1, none⟩ = some (.slice A0_1 l0_1.length c0_1) := (blk_cell BK385.out 1).trans rfl
  have hfz18_0 := blk_frozen BK385.out 0
  have hfz18_1 := blk_frozen BK385.out 1
  obtain ⟨Ao19, co19, eo19⟩ := Kd.R_slice HO391.out
  subst eo19
  go_upto_region 6 with (first | ((with_reducible refine gate_callee (f := 15) rfl ?_); refine gl_ (some 36) Try.func15 #[.agg #[.slice A0_0 l0_0.length c0_0, .slice A0_1 l0_1.length c0_1], .slice Ao19 t389.length co19, .slice none 0 0] ?_; (refine (chain_Next.calls _ _ l0_0 _ _ l0_1 _ _ t389 _ _ ([] : List Int) t396 t399 t402 _ ?side1 ?side2 ?side3 ?side4 ?side5 ?side6 ?side7 ?side8 A10.out).mono ?_); (case side1 => exact cc_ ((Kd.C_below HR0_0.out HB.out))); (case side2 => exact HC0_0.out); (case side3 => exact cc_ ((Kd.C_below HR0_1.out HB.out))); (case side4 => exact HC0_1.out); (case side5 => exact cc_ ((Kd.R_reads' HO391.out).2.2)); (case side6 => exact (Kd.R_reads' HO391.out).2.1); (case side7 => exact Kd.C_nil _ _); (case side8 => exact Nat.le_refl _); rintro e w20 ⟨v397, v400, rfl, ho0, ho1, hb⟩; refine ⟨_, rfl, ?_⟩; have n0_ := Aside0.mk (Kd.R_below (rr_ HO391) hb); have n1_ := Aside0.mk (Kd.R_below (rr_ HO394) hb); have n2_ := Aside0.mk (Kd.R_lower ho0 (below_size (bs_ HB GE385.out))); have n3_ := Aside0.mk (Kd.S_lower (Kd.S_new' ho1 (Kd.R_lt (rr_ HO394))) (below_size (bs_ HB GE385.out))); have n4_ := Aside0.mk (blk_below (g := gb385) (o := .cells #[.slice A0_0 l0_0.length c0_0, .slice A0_1 l0_1.length c0_1] 25 (0, 0)) (kk_ BK385) hb); have n5_ := Aside0.mk (below_step (bs_ HB GE385.out) hb); clear HO391; clear HO394; clear BK385; clear HB; have HO391 := n0_; have HO394 := n1_; have HO398 := n2_; have HO401 := n3_; have BK385 := n4_; have HB := n5_; clear n0_ n1_ n2_ n3_ n4_ n5_; (try clear hb); (try clear hb2); (try clear hk); (try clear hi); (try clear ho0); (try clear ho1)) | ((with_reducible refine gate_dst (N := 13) rfl ?_); (try (refine gate_guard (by rfl) ?_; dsimp only)); refine box_event ?hg (N := 13) ?hd (cs := #[.slice none 0 0, .slice none 0 0]) (t := 25) ?hr ?_; (case hd => rfl); (case hg => rfl); (case hr => first | (go_simp; done) | (go_simp; rfl)); intro gb403 hg w21 hbox hb; have n0_ := Aside0.mk (Kd.R_below (rr_ HO391) hb); have n1_ := Aside0.mk (Kd.R_below (rr_ HO394) hb); have n2_ := Aside0.mk (Kd.R_below (rr_ HO398) hb); have n3_ := Aside0.mk (Kd.S_below (by (with_reducible repeat (first | apply Kd.S_alloc | apply Kd.S_drewN | apply Kd.S_drew)); exact HO401.out) hb); have n4_ := Aside0.mk (blk_below (g := gb385) (o := .cells #[.slice A0_0 l0_0.length c0_0, .slice A0_1 l0_1.length c0_1] 25 (0, 0)) (kk_ BK385) hb); have n5_ := Aside0.mk (below_step (bs_ HB GE385.out) hb); have n6_ := Aside0.mk (hbox); have n7_ := Aside0.mk ((by rw [hg]; exact (below_size (bs_ HB GE385.out)) : w.heap.size ≤ gb403)); have n8_ := Aside0.mk ((by rw [hg]; exact (below_size (bs_ HB GE385.out)) : w.heap.size ≤ gb403)); have n9_ := Aside0.mk ((by rw [hg]; exact Nat.ne_of_lt (blk_lt (g := gb385) (o := .cells #[.slice A0_0 l0_0.length c0_0, .slice A0_1 l0_1.length c0_1] 25 (0, 0)) (kk_ BK385)) : gb385 ≠ gb403)); have n10_ := Aside0.mk ((by rw [hg]; exact Nat.ne_of_gt (blk_lt (g := gb385) (o := .cells #[.slice A0_0 l0_0.length c0_0, .slice A0_1 l0_1.length c0_1] 25 (0, 0)) (kk_ BK385)) : gb403 ≠ gb385)); clear HO391; clear HO394; clear HO398; clear HO401; clear BK385; clear HB; have HO391 := n0_; have HO394 := n1_; have HO398 := n2_; have HO401 := n3_; have BK385 := n4_; have HB := n5_; have BK403 := n6_; have GW403 := n7_; have GE403 := n8_; have NB385_403 := n9_; have NB403_385 := n10_; clear n0_ n1_ n2_ n3_ n4_ n5_ n6_ n7_ n8_ n9_ n10_; clear hb hbox hg; obtain ⟨Ao22, co22, eo22⟩ := Kd.R_slice HO398.out; subst eo22; have hnb23 := NB403_385.out; have hnc23 := NB385_403.out; have hcz24_0 : w21.cell? ⟨gb403, 0, none⟩ = some (.slice none 0 0) := (blk_cell BK403.out 0).trans rfl; have hcz24_1 : w21.cell? ⟨gb403, 1, none⟩ = some (.slice none 0 0) := (blk_cell BK403.out 1).trans rfl; have hfz24_0 := blk_frozen BK403.out 0; have hfz24_1 := blk_frozen BK403.out 1; obtain ⟨Ao25, co25, eo25⟩ := Kd.S_slice HO401.out; subst eo25))
  (try simp only [Act.put, sI_, s0_, sS_])
  go_cut [58] (fun v58 wc => ∃ (kq : Nat) (x58_10 : Bool), v58 = .bool x58_10 ∧ Aside0 (cohousinglaw26_ChainHomes.j0 kq t386 x58_10 l0_0 l0_1 t396 t399 = some r) ∧ Aside0 (kq ≤ k) ∧ Aside0 (Kd.R k84 84 wc w.heap.size (fun _ => True) (.slice Ao22 t396.length co22) t396) ∧ Aside0 (Kd.S k46 46 wc w.heap.size (fun _ => True) (.slice Ao25 t399.length co25) t399) ∧ Aside0 (wc.heap[gb385]? = some (.cells #[(.slice A0_0 l0_0.length c0_0), (.slice A0_1 l0_1.length c0_1)] 25 (0, 0))) ∧ Aside0 (wc.heap[gb403]? = some (.cells #[(.slice Ao22 t396.length co22), (.slice Ao25 t399.length co25)] 25 (0, 0))) ∧ Aside0 (Below w.heap.size w wc))
  case first =>
   have H := HC11.out
   clear HC11
   by_cases c26 : t395 = 0
   ·rw [if_pos c26] at H
    have c26b0 : (t395 == 0) = true := beq_iff_eq.mpr c26
    have c26b1 : (t395 != 0) = false := bne_eq_false_iff_eq.mpr c26
    clear c26
    (first | rw [c26b0] | (simp only [i64_w, i32_w]; rw [c26b0]) | skip)
    by_cases c27 : t402 = 0
    ·rw [if_pos c27] at H
     have c27b0 : (t402 == 0) = true := beq_iff_eq.mpr c27
     have c27b1 : (t402 != 0) = false := bne_eq_false_iff_eq.mpr c27
     clear c27
     replace H := Option.bind_eq_some_iff.mp H
     obtain ⟨t404, A280, H⟩ := H
     replace H : (if t404 = true then (cohousinglaw26_ChainHomes.j0 k t386 ((t399.length : Int) != (l0_1.length : Int)) l0_0 l0_1 t396 t399) else (cohousinglaw26_ChainHomes.j0 k t386 true l0_0 l0_1 t396 t399)) = some r := H
     have A28 := Aside0.mk A280
     clear A280
     by_cases c29 : t404 = true
     ·subst c29
      have H1 : (cohousinglaw26_ChainHomes.j0 k t386 ((t399.length : Int) != (l0_1.length : Int)) l0_0 l0_1 t396 t399) = some r := by rw [if_pos rfl] at H; exact H
      clear H
      have H := H1
      clear H1
      have H' := Aside0.mk H
      clear H
      have hnb30 := NB403_385.out
      have hnc30 := NB385_403.out
      have hcz31_0 : w21.cell? ⟨gb403, 0, none⟩ = some (.slice none 0 0) := (blk_cell BK403.out 0).trans rfl
      have hcz31_1 : w21.cell? ⟨gb403, 1, none⟩ = some (.slice none 0 0) := (blk_cell BK403.out 1).trans rfl
      have hfz31_0 := blk_frozen BK403.out 0
      have hfz31_1 := blk_frozen BK403.out 1
      go_wp2_with (first | (go_at_call 22; (with_reducible refine (market_Valid.calls _ _ t396 _ _ t399 true _ ?side1 ?side2 ?side3 ?side4 A28.out).mono ?_); (case side1 => refine (Kd.R_reads' (e := 84) (base := w.heap.size) (ok := fun k_ => True) (n := t396.length) (c := co22) ?_).2.2; exact (by (with_reducible repeat (first | apply Kd.R_alloc | apply Kd.R_drewN | apply Kd.R_drew)); exact (Kd.R_mono (Kd.R_far (p := ⟨gb403, 1, none⟩) (Kd.R_far (p := ⟨gb403, 0, none⟩) (Kd.R_types HO398.out BK403.out (by decide)) (fun _ hk => hk.2) (.slice Ao22 t396.length co22)) (fun _ hk => hk.2) (.slice Ao25 t399.length co25)) (fun _ h_ => h_.1)))); (case side2 => exact (Kd.R_reads' HO398.out).2.1); (case side3 => refine (Kd.S_reads' (e := 46) (base := w.heap.size) (ok := fun k_ => (True ∧ some k_ ≠ (v393 : Value).ownBlock)) (n := t399.length) (c := co25) ?_).2.2; exact (by (with_reducible repeat (first | apply Kd.S_alloc | apply Kd.S_drewN | apply Kd.S_drew)); exact (Kd.S_mono (Kd.S_far (p := ⟨gb403, 1, none⟩) (Kd.S_far (p := ⟨gb403, 0, none⟩) (Kd.S_types HO401.out BK403.out (by decide)) (fun _ hk => hk.2) (.slice Ao22 t396.length co22)) (fun _ hk => hk.2) (.slice Ao25 t399.length co25)) (fun _ h_ => h_.1)))); (case side4 => exact (Kd.S_reads' HO401.out).2.1); rintro e w32 ⟨rfl, hb⟩; have n0_ := Aside0.mk (Kd.R_below (by (with_reducible repeat (first | apply Kd.R_alloc | apply Kd.R_drewN | apply Kd.R_drew)); exact (Kd.R_mono (Kd.R_far (p := ⟨gb403, 1, none⟩) (Kd.R_far (p := ⟨gb403, 0, none⟩) (Kd.R_types HO391.out BK403.out (by decide)) (fun _ hk => hk.2) (.slice Ao22 t396.length co22)) (fun _ hk => hk.2) (.slice Ao25 t399.length co25)) (fun _ h_ => h_.1))) hb); have n1_ := Aside0.mk (Kd.R_below (by (with_reducible repeat (first | apply Kd.R_alloc | apply Kd.R_drewN | apply Kd.R_drew)); exact (Kd.R_mono (Kd.R_far (p := ⟨gb403, 1, none⟩) (Kd.R_far (p := ⟨gb403, 0, none⟩) (Kd.R_types HO394.out BK403.out (by decide)) (fun _ hk => hk.2) (.slice Ao22 t396.length co22)) (fun _ hk => hk.2) (.slice Ao25 t399.length co25)) (fun _ h_ => h_.1))) hb); have n2_ := Aside0.mk (Kd.R_below (by (with_reducible repeat (first | apply Kd.R_alloc | apply Kd.R_drewN | apply Kd.R_drew)); exact (Kd.R_mono (Kd.R_far (p := ⟨gb403, 1, none⟩) (Kd.R_far (p := ⟨gb403, 0, none⟩) (Kd.R_types HO398.out BK403.out (by decide)) (fun _ hk => hk.2) (.slice Ao22 t396.length co22)) (fun _ hk => hk.2) (.slice Ao25 t399.length co25)) (fun _ h_ => h_.1))) hb); have n3_ := Aside0.mk (Kd.S_below (by (with_reducible repeat (first | apply Kd.S_alloc | apply Kd.S_drewN | apply Kd.S_drew)); exact (Kd.S_mono (Kd.S_far (p := ⟨gb403, 1, none⟩) (Kd.S_far (p := ⟨gb403, 0, none⟩) (Kd.S_types HO401.out BK403.out (by decide)) (fun _ hk => hk.2) (.slice Ao22 t396.length co22)) (fun _ hk => hk.2) (.slice Ao25 t399.length co25)) (fun _ h_ => h_.1))) hb); have n4_ := Aside0.mk (blk_below (g := gb385) (o := .cells #[.slice A0_0 l0_0.length c0_0, .slice A0_1 l0_1.length c0_1] 25 (0, 0)) (by (with_reducible repeat (first | refine blk_drewN ?_ _ | refine blk_drew ?_ | refine blk_alloc ?_ _)); refine blk_far ?_ NB385_403.out _; (with_reducible repeat (first | refine blk_drewN ?_ _ | refine blk_drew ?_ | refine blk_alloc ?_ _)); refine blk_far ?_ NB385_403.out _; (with_reducible repeat (first | refine blk_drewN ?_ _ | refine blk_drew ?_ | refine blk_alloc ?_ _)); exact BK385.out) hb); have n5_ := Aside0.mk (blk_below (g := gb403) (o := .cells #[.slice Ao22 t396.length co22, .slice Ao25 t399.length co25] 25 (0, 0)) (by (with_reducible repeat (first | refine blk_drewN ?_ _ | refine blk_drew ?_ | refine blk_alloc ?_ _)); refine blk_put (cs := #[.slice Ao22 t396.length co22, .slice none 0 0]) ?_ 1 _ rfl; (with_reducible repeat (first | refine blk_drewN ?_ _ | refine blk_drew ?_ | refine blk_alloc ?_ _)); refine blk_put (cs := #[.slice none 0 0, .slice none 0 0]) ?_ 0 _ rfl; (with_reducible repeat (first | refine blk_drewN ?_ _ | refine blk_drew ?_ | refine blk_alloc ?_ _)); exact BK403.out) hb); have n6_ := Aside0.mk (below_step (by repeat (first | (with_reducible first | exact HB.out | apply below_alloc | apply pw_below_drewN | apply below_drew1 | refine below_set ?_ GE385.out | refine below_set ?_ GE403.out) | exact HB.out)) hb); clear HO391; clear HO394; clear HO398; clear HO401; clear BK385; clear BK403; clear HB; have HO391 := n0_; have HO394 := n1_; have HO398 := n2_; have HO401 := n3_; have BK385 := n4_; have BK403 := n5_; have HB := n6_; clear n0_ n1_ n2_ n3_ n4_ n5_ n6_; (try clear hb); (try clear hb2); (try clear hk); (try clear hi); have hcz33_0 : w32.cell? ⟨gb403, 0, none⟩ = some (.slice Ao22 t396.length co22) := (blk_cell BK403.out 0).trans rfl; have hcz33_1 : w32.cell? ⟨gb403, 1, none⟩ = some (.slice Ao25 t399.length co25) := (blk_cell BK403.out 1).trans rfl; have hfz33_0 := blk_frozen BK403.out 0; have hfz33_1 := blk_frozen BK403.out 1; have hcz34_0 : w32.cell? ⟨gb385, 0, none⟩ = some (.slice A0_0 l0_0.length c0_0) := (blk_cell BK385.out 0).trans rfl; have hcz34_1 : w32.cell? ⟨gb385, 1, none⟩ = some (.slice A0_1 l0_1.length c0_1) := (blk_cell BK385.out 1).trans rfl; have hfz34_0 := blk_frozen BK385.out 0; have hfz34_1 := blk_frozen BK385.out 1))
      go_meet
      case rel => exact ⟨_, (((t399.length : Int) != (l0_1.length : Int))), sd_, H', ⟨by first | omega | exact Nat.le_refl _⟩, ⟨by (with_reducible repeat (first | apply Kd.R_alloc | apply Kd.R_drewN | apply Kd.R_drew)); exact HO398.out⟩, ⟨by (with_reducible repeat (first | apply Kd.S_alloc | apply Kd.S_drewN | apply Kd.S_drew)); exact Kd.S_mono HO401.out (fun _ hk => trivial)⟩, ⟨by (with_reducible repeat (first | refine blk_drewN ?_ _ | refine blk_drew ?_ | refine blk_alloc ?_ _)); exact BK385.out⟩, ⟨by (with_reducible repeat (first | refine blk_drewN ?_ _ | refine blk_drew ?_ | refine blk_alloc ?_ _)); exact BK403.out⟩, ⟨by repeat (first | (with_reducible first | exact HB.out | apply below_alloc | apply pw_below_drewN | apply below_drew1 | refine below_set ?_ GE385.out | refine below_set ?_ GE403.out) | exact HB.out)⟩⟩
     ·replace c29 := Bool.eq_false_iff.mpr c29
      subst c29
      have H1 : (cohousinglaw26_ChainHomes.j0 k t386 true l0_0 l0_1 t396 t399) = some r := by rw [if_neg (show ¬ (false = true) by decide)] at H; exact H
      clear H
      have H := H1
      clear H1
      have H' := Aside0.mk H
      clear H
      have hnb35 := NB403_385.out
      have hnc35 := NB385_403.out
      have hcz36_0 : w21.cell? ⟨gb403, 0, none⟩ = some (.slice none 0 0) := (blk_cell BK403.out 0).trans rfl
      have hcz36_1 : w21.cell? ⟨gb403, 1, none⟩ = some (.slice none 0 0) := (blk_cell BK403.out 1).trans rfl
      have hfz36_0 := blk_frozen BK403.out 0
      have hfz36_1 := blk_frozen BK403.out 1
      go_wp2_with (first | (go_at_call 22; (with_reducible refine (market_Valid.calls _ _ t396 _ _ t399 false _ ?side1 ?side2 ?side3 ?side4 A28.out).mono ?_); (case side1 => refine (Kd.R_reads' (e := 84) (base := w.heap.size) (ok := fun k_ => True) (n := t396.length) (c := co22) ?_).2.2; exact (by (with_reducible repeat (first | apply Kd.R_alloc | apply Kd.R_drewN | apply Kd.R_drew)); exact (Kd.R_mono (Kd.R_far (p := ⟨gb403, 1, none⟩) (Kd.R_far (p := ⟨gb403, 0, none⟩) (Kd.R_types HO398.out BK403.out (by decide)) (fun _ hk => hk.2) (.slice Ao22 t396.length co22)) (fun _ hk => hk.2) (.slice Ao25 t399.length co25)) (fun _ h_ => h_.1)))); (case side2 => exact (Kd.R_reads' HO398.out).2.1); (case side3 => refine (Kd.S_reads' (e := 46) (base := w.heap.size) (ok := fun k_ => (True ∧ some k_ ≠ (v393 : Value).ownBlock)) (n := t399.length) (c := co25) ?_).2.2; exact (by (with_reducible repeat (first | apply Kd.S_alloc | apply Kd.S_drewN | apply Kd.S_drew)); exact (Kd.S_mono (Kd.S_far (p := ⟨gb403, 1, none⟩) (Kd.S_far (p := ⟨gb403, 0, none⟩) (Kd.S_types HO401.out BK403.out (by decide)) (fun _ hk => hk.2) (.slice Ao22 t396.length co22)) (fun _ hk => hk.2) (.slice Ao25 t399.length co25)) (fun _ h_ => h_.1)))); (case side4 => exact (Kd.S_reads' HO401.out).2.1); rintro e w37 ⟨rfl, hb⟩; have n0_ := Aside0.mk (Kd.R_below (by (with_reducible repeat (first | apply Kd.R_alloc | apply Kd.R_drewN | apply Kd.R_drew)); exact (Kd.R_mono (Kd.R_far (p := ⟨gb403, 1, none⟩) (Kd.R_far (p := ⟨gb403, 0, none⟩) (Kd.R_types HO391.out BK403.out (by decide)) (fun _ hk => hk.2) (.slice Ao22 t396.length co22)) (fun _ hk => hk.2) (.slice Ao25 t399.length co25)) (fun _ h_ => h_.1))) hb); have n1_ := Aside0.mk (Kd.R_below (by (with_reducible repeat (first | apply Kd.R_alloc | apply Kd.R_drewN | apply Kd.R_drew)); exact (Kd.R_mono (Kd.R_far (p := ⟨gb403, 1, none⟩) (Kd.R_far (p := ⟨gb403, 0, none⟩) (Kd.R_types HO394.out BK403.out (by decide)) (fun _ hk => hk.2) (.slice Ao22 t396.length co22)) (fun _ hk => hk.2) (.slice Ao25 t399.length co25)) (fun _ h_ => h_.1))) hb); have n2_ := Aside0.mk (Kd.R_below (by (with_reducible repeat (first | apply Kd.R_alloc | apply Kd.R_drewN | apply Kd.R_drew)); exact (Kd.R_mono (Kd.R_far (p := ⟨gb403, 1, none⟩) (Kd.R_far (p := ⟨gb403, 0, none⟩) (Kd.R_types HO398.out BK403.out (by decide)) (fun _ hk => hk.2) (.slice Ao22 t396.length co22)) (fun _ hk => hk.2) (.slice Ao25 t399.length co25)) (fun _ h_ => h_.1))) hb); have n3_ := Aside0.mk (Kd.S_below (by (with_reducible repeat (first | apply Kd.S_alloc | apply Kd.S_drewN | apply Kd.S_drew)); exact (Kd.S_mono (Kd.S_far (p := ⟨gb403, 1, none⟩) (Kd.S_far (p := ⟨gb403, 0, none⟩) (Kd.S_types HO401.out BK403.out (by decide)) (fun _ hk => hk.2) (.slice Ao22 t396.length co22)) (fun _ hk => hk.2) (.slice Ao25 t399.length co25)) (fun _ h_ => h_.1))) hb); have n4_ := Aside0.mk (blk_below (g := gb385) (o := .cells #[.slice A0_0 l0_0.length c0_0, .slice A0_1 l0_1.length c0_1] 25 (0, 0)) (by (with_reducible repeat (first | refine blk_drewN ?_ _ | refine blk_drew ?_ | refine blk_alloc ?_ _)); refine blk_far ?_ NB385_403.out _; (with_reducible repeat (first | refine blk_drewN ?_ _ | refine blk_drew ?_ | refine blk_alloc ?_ _)); refine blk_far ?_ NB385_403.out _; (with_reducible repeat (first | refine blk_drewN ?_ _ | refine blk_drew ?_ | refine blk_alloc ?_ _)); exact BK385.out) hb); have n5_ := Aside0.mk (blk_below (g := gb403) (o := .cells #[.slice Ao22 t396.length co22, .slice Ao25 t399.length co25] 25 (0, 0)) (by (with_reducible repeat (first | refine blk_drewN ?_ _ | refine blk_drew ?_ | refine blk_alloc ?_ _)); refine blk_put (cs := #[.slice Ao22 t396.length co22, .slice none 0 0]) ?_ 1 _ rfl; (with_reducible repeat (first | refine blk_drewN ?_ _ | refine blk_drew ?_ | refine blk_alloc ?_ _)); refine blk_put (cs := #[.slice none 0 0, .slice none 0 0]) ?_ 0 _ rfl; (with_reducible repeat (first | refine blk_drewN ?_ _ | refine blk_drew ?_ | refine blk_alloc ?_ _)); exact BK403.out) hb); have n6_ := Aside0.mk (below_step (by repeat (first | (with_reducible first | exact HB.out | apply below_alloc | apply pw_below_drewN | apply below_drew1 | refine below_set ?_ GE385.out | refine below_set ?_ GE403.out) | exact HB.out)) hb); clear HO391; clear HO394; clear HO398; clear HO401; clear BK385; clear BK403; clear HB; have HO391 := n0_; have HO394 := n1_; have HO398 := n2_; have HO401 := n3_; have BK385 := n4_; have BK403 := n5_; have HB := n6_; clear n0_ n1_ n2_ n3_ n4_ n5_ n6_; (try clear hb); (try clear hb2); (try clear hk); (try clear hi)))
      go_meet
      case rel => exact ⟨_, (true), sd_, H', ⟨by first | omega | exact Nat.le_refl _⟩, ⟨by (with_reducible repeat (first | apply Kd.R_alloc | apply Kd.R_drewN | apply Kd.R_drew)); exact HO398.out⟩, ⟨by (with_reducible repeat (first | apply Kd.S_alloc | apply Kd.S_drewN | apply Kd.S_drew)); exact Kd.S_mono HO401.out (fun _ hk => trivial)⟩, ⟨by (with_reducible repeat (first | refine blk_drewN ?_ _ | refine blk_drew ?_ | refine blk_alloc ?_ _)); exact BK385.out⟩, ⟨by (with_reducible repeat (first | refine blk_drewN ?_ _ | refine blk_drew ?_ | refine blk_alloc ?_ _)); exact BK403.out⟩, ⟨by repeat (first | (with_reducible first | exact HB.out | apply below_alloc | apply pw_below_drewN | apply below_drew1 | refine below_set ?_ GE385.out | refine below_set ?_ GE403.out) | exact HB.out)⟩⟩
    ·rw [if_neg c27] at H
     have c27b0 : (t402 == 0) = false := beq_eq_false_iff_ne.mpr c27
     have c27b1 : (t402 != 0) = true := bne_iff_ne.mpr c27
     have H' := Aside0.mk H
     clear H
     go_wp2
     go_meet
     case rel => exact ⟨_, (true), sd_, H', ⟨by first | omega | exact Nat.le_refl _⟩, ⟨by (with_reducible repeat (first | apply Kd.R_alloc | apply Kd.R_drewN | apply Kd.R_drew)); exact Kd.R_mono (Kd.R_far (p := ⟨gb403, 1, none⟩) (Kd.R_far (p := ⟨gb403, 0, none⟩) (Kd.R_types HO398.out BK403.out (by decide)) (fun _ hk => hk.2) (.slice Ao22 t396.length co22)) (fun _ hk => hk.2) (.slice Ao25 t399.length co25)) (fun _ hk => trivial)⟩, ⟨by (with_reducible repeat (first | apply Kd.S_alloc | apply Kd.S_drewN | apply Kd.S_drew)); exact Kd.S_mono (Kd.S_far (p := ⟨gb403, 1, none⟩) (Kd.S_far (p := ⟨gb403, 0, none⟩) (Kd.S_types HO401.out BK403.out (by decide)) (fun _ hk => hk.2) (.slice Ao22 t396.length co22)) (fun _ hk => hk.2) (.slice Ao25 t399.length co25)) (fun _ hk => trivial)⟩, ⟨by (with_reducible repeat (first | refine blk_drewN ?_ _ | refine blk_drew ?_ | refine blk_alloc ?_ _)); refine blk_far ?_ NB385_403.out _; (with_reducible repeat (first | refine blk_drewN ?_ _ | refine blk_drew ?_ | refine blk_alloc ?_ _)); refine blk_far ?_ NB385_403.out _; (with_reducible repeat (first | refine blk_drewN ?_ _ | refine blk_drew ?_ | refine blk_alloc ?_ _)); exact BK385.out⟩, ⟨by (with_reducible repeat (first | refine blk_drewN ?_ _ | refine blk_drew ?_ | refine blk_alloc ?_ _)); refine blk_put (cs := #[.slice Ao22 t396.length co22, .slice none 0 0]) ?_ 1 _ rfl; (with_reducible repeat (first | refine blk_drewN ?_ _ | refine blk_drew ?_ | refine blk_alloc ?_ _)); refine blk_put (cs := #[.slice none 0 0, .slice none 0 0]) ?_ 0 _ rfl; (with_reducible repeat (first | refine blk_drewN ?_ _ | refine blk_drew ?_ | refine blk_alloc ?_ _)); exact BK403.out⟩, ⟨by repeat (first | (with_reducible first | exact HB.out | apply below_alloc | apply pw_below_drewN | apply below_drew1 | refine below_set ?_ GE385.out | refine below_set ?_ GE403.out) | exact HB.out)⟩⟩
   ·rw [if_neg c26] at H
    have c26b0 : (t395 == 0) = false := beq_eq_false_iff_ne.mpr c26
    have c26b1 : (t395 != 0) = true := bne_iff_ne.mpr c26
    (first | rw [c26b0] | (simp only [i64_w, i32_w]; rw [c26b0]) | skip)
    have H' := Aside0.mk H
    clear H
    go_wp2
    go_meet
    case rel => exact ⟨_, (true), sd_, H', ⟨by first | omega | exact Nat.le_refl _⟩, ⟨by (with_reducible repeat (first | apply Kd.R_alloc | apply Kd.R_drewN | apply Kd.R_drew)); exact Kd.R_mono (Kd.R_far (p := ⟨gb403, 1, none⟩) (Kd.R_far (p := ⟨gb403, 0, none⟩) (Kd.R_types HO398.out BK403.out (by decide)) (fun _ hk => hk.2) (.slice Ao22 t396.length co22)) (fun _ hk => hk.2) (.slice Ao25 t399.length co25)) (fun _ hk => trivial)⟩, ⟨by (with_reducible repeat (first | apply Kd.S_alloc | apply Kd.S_drewN | apply Kd.S_drew)); exact Kd.S_mono (Kd.S_far (p := ⟨gb403, 1, none⟩) (Kd.S_far (p := ⟨gb403, 0, none⟩) (Kd.S_types HO401.out BK403.out (by decide)) (fun _ hk => hk.2) (.slice Ao22 t396.length co22)) (fun _ hk => hk.2) (.slice Ao25 t399.length co25)) (fun _ hk => trivial)⟩, ⟨by (with_reducible repeat (first | refine blk_drewN ?_ _ | refine blk_drew ?_ | refine blk_alloc ?_ _)); refine blk_far ?_ NB385_403.out _; (with_reducible repeat (first | refine blk_drewN ?_ _ | refine blk_drew ?_ | refine blk_alloc ?_ _)); refine blk_far ?_ NB385_403.out _; (with_reducible repeat (first | refine blk_drewN ?_ _ | refine blk_drew ?_ | refine blk_alloc ?_ _)); exact BK385.out⟩, ⟨by (with_reducible repeat (first | refine blk_drewN ?_ _ | refine blk_drew ?_ | refine blk_alloc ?_ _)); refine blk_put (cs := #[.slice Ao22 t396.length co22, .slice none 0 0]) ?_ 1 _ rfl; (with_reducible repeat (first | refine blk_drewN ?_ _ | refine blk_drew ?_ | refine blk_alloc ?_ _)); refine blk_put (cs := #[.slice none 0 0, .slice none 0 0]) ?_ 0 _ rfl; (with_reducible repeat (first | refine blk_drewN ?_ _ | refine blk_drew ?_ | refine blk_alloc ?_ _)); exact BK403.out⟩, ⟨by repeat (first | (with_reducible first | exact HB.out | apply below_alloc | apply pw_below_drewN | apply below_drew1 | refine below_set ?_ GE385.out | refine below_set ?_ GE403.out) | exact HB.out)⟩⟩
  case rest =>
   clear HC11
   try clear c1
   try clear c2
   try clear p2
   try clear c3
   try clear c4
   try clear c7
   try clear c10
   try clear c13
   try clear c15
   try clear c20
   try clear c21
   try clear c23
   try clear c26
   try clear c26b0
   try clear c26b1
   try clear c27
   try clear c27b0
   try clear c27b1
   try clear c29
   try clear c30
   try clear c35
   try clear hcz14_0
   try clear hcz14_1
   try clear hcz18_0
   try clear hcz18_1
   try clear hcz24_0
   try clear hcz24_1
   try clear hcz31_0
   try clear hcz31_1
   try clear hcz33_0
   try clear hcz33_1
   try clear hcz34_0
   try clear hcz34_1
   try clear hcz36_0
   try clear hcz36_1
   try clear hfz14_0
   try clear hfz14_1
   try clear hfz18_0
   try clear hfz18_1
   try clear hfz24_0
   try clear hfz24_1
   try clear hfz31_0
   try clear hfz31_1
   try clear hfz33_0
   try clear hfz33_1
   try clear hfz34_0
   try clear hfz34_1
   try clear hfz36_0
   try clear hfz36_1
   obtain ⟨kq, x58_10, rfl, HA, HJ10, HO_404000, HO_404001, BK385, BK403, HB⟩ := hcut
   cases kq with
   | zero => exact absurd HA.out (by simp [cohousinglaw26_ChainHomes.j0])
   | succ kj10 =>
    have H := HA.out
    clear HA
    simp only [cohousinglaw26_ChainHomes.j0] at H
    by_cases c38 : x58_10 = true
    ·subst c38
     have H1 : (some false) = some r := by rw [if_pos rfl] at H; exact H
     clear H
     have H := H1
     clear H1
     obtain rfl := Option.some.inj H
     go_wp2
     go_ret
     exact ⟨ew_, by repeat (first | (with_reducible first | exact HB.out | apply below_alloc | apply pw_below_drewN | apply below_drew1 | refine below_set ?_ GE385.out | refine below_set ?_ GE403.out) | exact HB.out)⟩
    ·replace c38 := Bool.eq_false_iff.mpr c38
     subst c38
     have H1 : (cohousinglaw26_ChainHomes.l0 kj10 t386 0 l0_0 l0_1 t396 t399) = some r := by rw [if_neg (show ¬ (false = true) by decide)] at H; exact H
     clear H
     have H := H1
     clear H1
     have H' := Aside0.mk H
     clear H
     go_wp2
     go_loopg [15] kj10 (fun kq v15 w' => ∃ (x15_2 : Int), v15 = .int .i64 x15_2 ∧ Aside0 (cohousinglaw26_ChainHomes.l0 kq t386 x15_2 l0_0 l0_1 t396 t399 = some r) ∧ Aside0 (kq ≤ kj10) ∧ Aside0 (Kd.R k84 84 w' w.heap.size (fun _ => True) (.slice Ao22 t396.length co22) t396) ∧ Aside0 (Kd.S k46 46 w' w.heap.size (fun _ => True) (.slice Ao25 t399.length co25) t399) ∧ Aside0 (w'.heap[gb385]? = some (.cells #[(.slice A0_0 l0_0.length c0_0), (.slice A0_1 l0_1.length c0_1)] 25 (0, 0))) ∧ Aside0 (w'.heap[gb403]? = some (.cells #[(.slice Ao22 t396.length co22), (.slice Ao25 t399.length co25)] 25 (0, 0))) ∧ Aside0 (Below w.heap.size w w'))
     case atStart => exact ⟨(0), sd_, H', ⟨Nat.le_refl _⟩, ⟨by (with_reducible repeat (first | apply Kd.R_alloc | apply Kd.R_drewN | apply Kd.R_drew)); exact HO_404000.out⟩, ⟨by (with_reducible repeat (first | apply Kd.S_alloc | apply Kd.S_drewN | apply Kd.S_drew)); exact HO_404001.out⟩, ⟨by (with_reducible repeat (first | refine blk_drewN ?_ _ | refine blk_drew ?_ | refine blk_alloc ?_ _)); exact BK385.out⟩, ⟨by (with_reducible repeat (first | refine blk_drewN ?_ _ | refine blk_drew ?_ | refine blk_alloc ?_ _)); exact BK403.out⟩, ⟨by repeat (first | (with_reducible first | exact HB.out | apply below_alloc | apply pw_below_drewN | apply below_drew1 | refine below_set ?_ GE385.out | refine below_set ?_ GE403.out) | exact HB.out)⟩⟩
     case round =>
      clear H'
      try clear c1
      try clear c2
      try clear p2
      try clear c3
      try clear c4
      try clear c7
      try clear c10
      try clear c13
      try clear c15
      try clear c20
      try clear c21
      try clear c23
      try clear c26
      try clear c26b0
      try clear c26b1
      try clear c27
      try clear c27b0
      try clear c27b1
      try clear c29
      try clear c30
      try clear c35
      try clear c38
      try clear hcz14_0
      try clear hcz14_1
      try clear hcz18_0
      try clear hcz18_1
      try clear hcz24_0
      try clear hcz24_1
      try clear hcz31_0
      try clear hcz31_1
      try clear hcz33_0
      try clear hcz33_1
      try clear hcz34_0
      try clear hcz34_1
      try clear hcz36_0
      try clear hcz36_1
      try clear hfz14_0
      try clear hfz14_1
      try clear hfz18_0
      try clear hfz18_1
      try clear hfz24_0
      try clear hfz24_1
      try clear hfz31_0
      try clear hfz31_1
      try clear hfz33_0
      try clear hfz33_1
      try clear hfz34_0
      try clear hfz34_1
      try clear hfz36_0
      try clear hfz36_1
      try clear p2
      obtain ⟨x15_2, rfl, HA, HK2, HO_404000, HO_404001, BK385, BK403, HB⟩ := hrel
      cases gk with
      | zero => exact absurd HA.out (by simp [cohousinglaw26_ChainHomes.l0])
      | succ k2 =>
       have H := HA.out
       clear HA
       simp only [cohousinglaw26_ChainHomes.l0] at H
       by_cases c39 : x15_2 < (l0_1.length : Int)
       ·rw [if_pos c39] at H
        have c39b0 : decide (x15_2 < (l0_1.length : Int)) = true := decide_eq_true c39
        clear c39
        by_cases c40 : 0 ≤ x15_2
        ·rw [if_pos c40] at H
         have c40b0 : decide (0 ≤ x15_2) = true := decide_eq_true c40
         clear c40
         by_cases c41 : x15_2 < (t399.length : Int)
         ·rw [if_pos c41] at H
          have c41b0 : decide (x15_2 < (t399.length : Int)) = true := decide_eq_true c41
          clear c41
          by_cases c42 : ((rd_T46 t399 x15_2).f0) = ((rd_T46 l0_1 x15_2).f0)
          ·rw [if_pos c42] at H
           have c42b0 : (((rd_T46 t399 x15_2).f0) == ((rd_T46 l0_1 x15_2).f0)) = true := beq_iff_eq.mpr c42
           have c42b1 : (((rd_T46 t399 x15_2).f0) != ((rd_T46 l0_1 x15_2).f0)) = false := bne_eq_false_iff_eq.mpr c42
           clear c42
           by_cases c43 : ((rd_T46 l0_1 x15_2).f1) = 0
           ·rw [if_pos c43] at H
            have c43b0 : (((rd_T46 l0_1 x15_2).f1) == 0) = true := beq_iff_eq.mpr c43
            have c43b1 : (((rd_T46 l0_1 x15_2).f1) != 0) = false := bne_eq_false_iff_eq.mpr c43
            clear c43
            have H' := Aside0.mk H
            clear H
            have hnb44 := NB385_403.out
            have hnc44 := NB403_385.out
            have hcz45_0 : wr.cell? ⟨gb385, 0, none⟩ = some (.slice A0_0 l0_0.length c0_0) := (blk_cell BK385.out 0).trans rfl
            have hcz45_1 : wr.cell? ⟨gb385, 1, none⟩ = some (.slice A0_1 l0_1.length c0_1) := (blk_cell BK385.out 1).trans rfl
            have hfz45_0 := blk_frozen BK385.out 0
            have hfz45_1 := blk_frozen BK385.out 1
            try go_wp2
            have n0_ := Aside0.mk (Kd.R_drew HO_404000.out)
            have n1_ := Aside0.mk (Kd.S_drew HO_404001.out)
            have n2_ := Aside0.mk (blk_drew BK385.out)
            have n3_ := Aside0.mk (blk_drew BK403.out)
            have n4_ := Aside0.mk (below_drew1 HB.out)
            clear HO_404000
            clear HO_404001
            clear BK385
            clear BK403
            clear HB
            have HO_404000 := n0_
            have HO_404001 := n1_
            have BK385 := n2_
            have BK403 := n3_
            have HB := n4_
            clear n0_ n1_ n2_ n3_ n4_
            have p405 : 0 ≤ (x15_2 : Int) := od_
            have q405 : x15_2 < (t399.length : Int) := od_
            obtain ⟨ad405, A405_2, c405_2, e405, hx405_0, hx405_1, hx405_2, hl405_2, hi405_2⟩ := at_T46 (Kd.S_reads' HO_404001.out).2.2 x15_2 p405 q405
            cases e405
            obtain ⟨ce405, hce405, hMe405, hcc405⟩ := Kd.S_get HO_404001.out z46 x15_2 p405 (by first | exact q405 | exact od_ | (have e_ := (Kd.S_reads' HO_404001.out).1; omega))
            obtain ⟨ve405_2, rfl, ge405_2⟩ := k46_openM hMe405
            have hv405_2 := hcc405 2 _ rfl
            rw [add_field _ _ 2 (by omega)] at hv405_2
            replace hv405_2 := Option.some.inj (hv405_2.symm.trans hx405_2)
            rw [hv405_2] at ge405_2
            have HL405_2 := Aside0.mk (show Kd.R (Kd.int .i64) 3 _ _ _ _ ((rd_T46 t399 x15_2).f2) from ge405_2)
            clear hv405_2 ge405_2
            clear hcc405 hce405
            have HR405_2 := Aside0.mk hi405_2
            have HC405_2 := Aside0.mk hl405_2
            clear hi405_2 hl405_2
            replace p405 := eq_true p405
            replace q405 := eq_true q405
            have p406 : 0 ≤ (x15_2 : Int) := od_
            have q406 : x15_2 < (l0_1.length : Int) := od_
            obtain ⟨ad406, A406_2, c406_2, e406, hx406_0, hx406_1, hx406_2, hl406_2, hi406_2⟩ := at_T46 HR0_1.out x15_2 p406 q406
            have hw406_2 := hx406_2
            have hw406_1 := hx406_1
            have hw406_0 := hx406_0
            cases e406
            replace hx406_0 := (HB.out.cell (World.block_lt_of_cell? w _ hx406_0)).trans hx406_0
            replace hx406_1 := (HB.out.cell (World.block_lt_of_cell? w _ hx406_1)).trans hx406_1
            replace hx406_2 := (HB.out.cell (World.block_lt_of_cell? w _ hx406_2)).trans hx406_2
            have HR406_2 := Aside0.mk hi406_2
            have HC406_2 := Aside0.mk hl406_2
            clear hi406_2 hl406_2
            replace p406 := eq_true p406
            replace q406 := eq_true q406
            have p407 : 0 ≤ (x15_2 : Int) := od_
            have q407 : x15_2 < (l0_1.length : Int) := od_
            obtain ⟨ad407, A407_2, c407_2, e407, hx407_0, hx407_1, hx407_2, hl407_2, hi407_2⟩ := at_T46 HR0_1.out x15_2 p407 q407
            have hw407_2 := hx407_2
            have hw407_1 := hx407_1
            have hw407_0 := hx407_0
            obtain rfl : ad406 = ad407 := (by injection e407)
            replace hx407_0 := (HB.out.cell (World.block_lt_of_cell? w _ hx407_0)).trans hx407_0
            replace hx407_1 := (HB.out.cell (World.block_lt_of_cell? w _ hx407_1)).trans hx407_1
            replace hx407_2 := (HB.out.cell (World.block_lt_of_cell? w _ hx407_2)).trans hx407_2
            have HR407_2 := Aside0.mk hi407_2
            have HC407_2 := Aside0.mk hl407_2
            clear hi407_2 hl407_2
            replace p407 := eq_true p407
            replace q407 := eq_true q407
            have ea_ := Option.some.inj (hx406_2.symm.trans hx407_2)
            injection ea_ with ea_ en_ ec_
            subst ea_
            subst ec_
            clear en_
            refine start_ (n := 31) (S := fun w' => w'.cell? ⟨gb403, 0, none⟩ = some (.slice Ao22 t396.length co22) ∧ w'.cell? ⟨gb403, 1, none⟩ = some (.slice (some ad405) t399.length co25) ∧ w'.cell? ⟨gb385, 0, none⟩ = some (.slice A0_0 l0_0.length c0_0) ∧ w'.cell? ⟨gb385, 1, none⟩ = some (.slice (some ad406) l0_1.length c0_1) ∧ w'.cell? (ad405.add ((x15_2).toNat * 3)) = some (.int .i64 ((rd_T46 t399 x15_2).f0)) ∧ w'.cell? ⟨(ad405.add ((x15_2).toNat * 3)).block, (ad405.add ((x15_2).toNat * 3)).off + 1, none⟩ = some (.int .i64 ((rd_T46 t399 x15_2).f1)) ∧ w'.cell? ⟨(ad405.add ((x15_2).toNat * 3)).block, (ad405.add ((x15_2).toNat * 3)).off + 2, none⟩ = some (.slice A405_2 ((rd_T46 t399 x15_2).f2).length c405_2) ∧ w'.cell? (ad406.add ((x15_2).toNat * 3)) = some (.int .i64 ((rd_T46 l0_1 x15_2).f0)) ∧ w'.cell? ⟨(ad406.add ((x15_2).toNat * 3)).block, (ad406.add ((x15_2).toNat * 3)).off + 1, none⟩ = some (.int .i64 ((rd_T46 l0_1 x15_2).f1)) ∧ w'.cell? ⟨(ad406.add ((x15_2).toNat * 3)).block, (ad406.add ((x15_2).toNat * 3)).off + 2, none⟩ = some (.slice A406_2 ((rd_T46 l0_1 x15_2).f2).length c406_2) ∧ w'.cell? (ad406.add ((x15_2).toNat * 3)) = some (.int .i64 ((rd_T46 l0_1 x15_2).f0)) ∧ w'.cell? ⟨(ad406.add ((x15_2).toNat * 3)).block, (ad406.add ((x15_2).toNat * 3)).off + 1, none⟩ = some (.int .i64 ((rd_T46 l0_1 x15_2).f1)) ∧ w'.cell? ⟨(ad406.add ((x15_2).toNat * 3)).block, (ad406.add ((x15_2).toNat * 3)).off + 2, none⟩ = some (.slice A406_2 ((rd_T46 l0_1 x15_2).f2).length c406_2)) (ds := []) #[n_, n_, n_, n_, n_, n_, n_, n_, n_, n_, n_, n_, n_, n_, n_, n_, n_, n_, n_, n_, n_, n_, n_, n_, n_, n_, n_, n_, n_, n_, n_] (by kernel_rfl) rfl rfl ⟨(blk_cell BK403.out 0).trans rfl, (blk_cell BK403.out 1).trans rfl, (blk_cell BK385.out 0).trans rfl, (blk_cell BK385.out 1).trans rfl, hx405_0, hx405_1, hx405_2, ((HB.out.cell (World.block_lt_of_cell? w _ hw406_0)).trans hw406_0), ((HB.out.cell (World.block_lt_of_cell? w _ hw406_1)).trans hw406_1), ((HB.out.cell (World.block_lt_of_cell? w _ hw406_2)).trans hw406_2), ((HB.out.cell (World.block_lt_of_cell? w _ hw407_0)).trans hw407_0), ((HB.out.cell (World.block_lt_of_cell? w _ hw407_1)).trans hw407_1), ((HB.out.cell (World.block_lt_of_cell? w _ hw407_2)).trans hw407_2)⟩ (fun hHeld => ?_); refine with_tabW cohousinglaw26_ChainHomes.tab11 cohousinglaw26_ChainHomes.bits11 (fun HT_ HW_ => ?_)
            generalize wr.drew = w46 at HO_404000 HO_404001 BK385 BK403 HB HL405_2 HR405_2 HR406_2 HR407_2 hx405_0 hx405_1 hx405_2 hx406_0 hx406_1 hx406_2 hx407_0 hx407_1 hx407_2 hHeld ⊢
            refine pu_ 0 66 (w_ 31 1) rfl HT_ ?_
            refine pu_ 2 68 (w_ 31 5) rfl HT_ ?_
            refine pu_ 6 72 (w_ 31 69) rfl HT_ ?_
            refine pu_ 8 74 (w_ 31 325) rfl HT_ ?_
            refine ta_ 1 67 (w_ 31 327) rfl HT_ HW_ hHeld (by rintro w' ⟨s0, s1, s2, s3, s4, s5, s6, s7, s8, s9, s10, s11, s12⟩; go_simp; with_reducible rfl) ?_
            refine pu_ 3 69 (w_ 31 335) rfl HT_ ?_
            refine pu_ 4 70 (w_ 31 351) rfl HT_ ?_
            refine ta_ 5 71 (w_ 31 383) rfl HT_ HW_ hHeld (by rintro w' ⟨s0, s1, s2, s3, s4, s5, s6, s7, s8, s9, s10, s11, s12⟩; go_simp; with_reducible rfl) ?_
            refine ta_ 7 73 (w_ 31 511) rfl HT_ HW_ hHeld (by rintro w' ⟨s0, s1, s2, s3, s4, s5, s6, s7, s8, s9, s10, s11, s12⟩; go_simp; with_reducible rfl) ?_
            refine pu_ 9 75 (w_ 31 1023) rfl HT_ ?_
            refine pu_ 10 76 (w_ 31 2047) rfl HT_ ?_
            refine ta_ 11 77 (w_ 31 4095) rfl HT_ HW_ hHeld (by rintro w' ⟨s0, s1, s2, s3, s4, s5, s6, s7, s8, s9, s10, s11, s12⟩; go_simp; with_reducible rfl) ?_
            refine pu_ 12 78 (w_ 31 8191) rfl HT_ ?_
            refine pu_ 13 79 (w_ 31 16383) rfl HT_ ?_
            refine pu_ 14 80 (w_ 31 32767) rfl HT_ ?_
            refine pu_ 16 82 (w_ 31 98303) rfl HT_ ?_
            refine ta_ 15 81 (w_ 31 131071) rfl HT_ HW_ hHeld (by rintro w' ⟨s0, s1, s2, s3, s4, s5, s6, s7, s8, s9, s10, s11, s12⟩; go_simp; with_reducible rfl) ?_
            refine pu_ 17 83 (w_ 31 262143) rfl HT_ ?_
            refine pu_ 18 84 (w_ 31 524287) rfl HT_ ?_
            refine ta_ 19 85 (w_ 31 1048575) rfl HT_ HW_ hHeld (by rintro w' ⟨s0, s1, s2, s3, s4, s5, s6, s7, s8, s9, s10, s11, s12⟩; go_simp; with_reducible rfl) ?_
            refine pu_ 20 86 (w_ 31 2097151) rfl HT_ ?_
            refine pu_ 21 87 (w_ 31 4194303) rfl HT_ ?_
            refine pn_ 22 88 (w_ 31 8388607) rfl HT_ ?_
            refine pn_ 23 89 (w_ 31 16777215) rfl HT_ ?_
            refine pn_ 24 90 (w_ 31 33554431) rfl HT_ ?_
            refine pn_ 25 91 (w_ 31 67108863) rfl HT_ ?_
            refine pn_ 26 92 (w_ 31 134217727) rfl HT_ ?_
            refine pn_ 27 93 (w_ 31 268435455) rfl HT_ ?_
            refine pn_ 28 94 (w_ 31 536870911) rfl HT_ ?_
            refine pu_ 29 95 (w_ 31 1073741823) rfl HT_ ?_
            refine pu_ 30 96 (w_ 31 2147483647) rfl HT_ ?_
            refine done_ (done_of HT_.out (by kernel_rfl)) ?_
            try go_wp2
            go_roundg k2
            case measure => have := HJ10.out; have := HK2.out; omega
            case rel => exact ⟨(wrap64 (x15_2 + 1)), sd_, H', ⟨by have := HJ10.out; have := HK2.out; omega⟩, ⟨by (with_reducible repeat (first | apply Kd.R_alloc | apply Kd.R_drewN | apply Kd.R_drew)); exact HO_404000.out⟩, ⟨by (with_reducible repeat (first | apply Kd.S_alloc | apply Kd.S_drewN | apply Kd.S_drew)); exact HO_404001.out⟩, ⟨by (with_reducible repeat (first | refine blk_drewN ?_ _ | refine blk_drew ?_ | refine blk_alloc ?_ _)); exact BK385.out⟩, ⟨by (with_reducible repeat (first | refine blk_drewN ?_ _ | refine blk_drew ?_ | refine blk_alloc ?_ _)); exact BK403.out⟩, ⟨by repeat (first | (with_reducible first | exact HB.out | apply below_alloc | apply pw_below_drewN | apply below_drew1 | refine below_set ?_ GE385.out | refine below_set ?_ GE403.out) | exact HB.out)⟩⟩
           ·rw [if_neg c43] at H
            have c43b0 : (((rd_T46 l0_1 x15_2).f1) == 0) = false := beq_eq_false_iff_ne.mpr c43
            have c43b1 : (((rd_T46 l0_1 x15_2).f1) != 0) = true := bne_iff_ne.mpr c43
            by_cases c47 : ((rd_T46 t399 x15_2).f1) = 0
            ·rw [if_pos c47] at H
             have c47b0 : (((rd_T46 t399 x15_2).f1) == 0) = true := beq_iff_eq.mpr c47
             have c47b1 : (((rd_T46 t399 x15_2).f1) != 0) = false := bne_eq_false_iff_eq.mpr c47
             clear c47
             obtain rfl := Option.some.inj H
             have hnb48 := NB385_403.out
             have hnc48 := NB403_385.out
             have hcz49_0 : wr.cell? ⟨gb385, 0, none⟩ = some (.slice A0_0 l0_0.length c0_0) := (blk_cell BK385.out 0).trans rfl
             have hcz49_1 : wr.cell? ⟨gb385, 1, none⟩ = some (.slice A0_1 l0_1.length c0_1) := (blk_cell BK385.out 1).trans rfl
             have hfz49_0 := blk_frozen BK385.out 0
             have hfz49_1 := blk_frozen BK385.out 1
             try go_wp2
             have n0_ := Aside0.mk (Kd.R_drew HO_404000.out)
             have n1_ := Aside0.mk (Kd.S_drew HO_404001.out)
             have n2_ := Aside0.mk (blk_drew BK385.out)
             have n3_ := Aside0.mk (blk_drew BK403.out)
             have n4_ := Aside0.mk (below_drew1 HB.out)
             clear HO_404000
             clear HO_404001
             clear BK385
             clear BK403
             clear HB
             have HO_404000 := n0_
             have HO_404001 := n1_
             have BK385 := n2_
             have BK403 := n3_
             have HB := n4_
             clear n0_ n1_ n2_ n3_ n4_
             have p405 : 0 ≤ (x15_2 : Int) := od_
             have q405 : x15_2 < (t399.length : Int) := od_
             obtain ⟨ad405, A405_2, c405_2, e405, hx405_0, hx405_1, hx405_2, hl405_2, hi405_2⟩ := at_T46 (Kd.S_reads' HO_404001.out).2.2 x15_2 p405 q405
             cases e405
             obtain ⟨ce405, hce405, hMe405, hcc405⟩ := Kd.S_get HO_404001.out z46 x15_2 p405 (by first | exact q405 | exact od_ | (have e_ := (Kd.S_reads' HO_404001.out).1; omega))
             obtain ⟨ve405_2, rfl, ge405_2⟩ := k46_openM hMe405
             have hv405_2 := hcc405 2 _ rfl
             rw [add_field _ _ 2 (by omega)] at hv405_2
             replace hv405_2 := Option.some.inj (hv405_2.symm.trans hx405_2)
             rw [hv405_2] at ge405_2
             have HL405_2 := Aside0.mk (show Kd.R (Kd.int .i64) 3 _ _ _ _ ((rd_T46 t399 x15_2).f2) from ge405_2)
             clear hv405_2 ge405_2
             clear hcc405 hce405
             have HR405_2 := Aside0.mk hi405_2
             have HC405_2 := Aside0.mk hl405_2
             clear hi405_2 hl405_2
             replace p405 := eq_true p405
             replace q405 := eq_true q405
             have p406 : 0 ≤ (x15_2 : Int) := od_
             have q406 : x15_2 < (l0_1.length : Int) := od_
             obtain ⟨ad406, A406_2, c406_2, e406, hx406_0, hx406_1, hx406_2, hl406_2, hi406_2⟩ := at_T46 HR0_1.out x15_2 p406 q406
             have hw406_2 := hx406_2
             have hw406_1 := hx406_1
             have hw406_0 := hx406_0
             cases e406
             replace hx406_0 := (HB.out.cell (World.block_lt_of_cell? w _ hx406_0)).trans hx406_0
             replace hx406_1 := (HB.out.cell (World.block_lt_of_cell? w _ hx406_1)).trans hx406_1
             replace hx406_2 := (HB.out.cell (World.block_lt_of_cell? w _ hx406_2)).trans hx406_2
             have HR406_2 := Aside0.mk hi406_2
             have HC406_2 := Aside0.mk hl406_2
             clear hi406_2 hl406_2
             replace p406 := eq_true p406
             replace q406 := eq_true q406
             have p407 : 0 ≤ (x15_2 : Int) := od_
             have q407 : x15_2 < (l0_1.length : Int) := od_
             obtain ⟨ad407, A407_2, c407_2, e407, hx407_0, hx407_1, hx407_2, hl407_2, hi407_2⟩ := at_T46 HR0_1.out x15_2 p407 q407
             have hw407_2 := hx407_2
             have hw407_1 := hx407_1
             have hw407_0 := hx407_0
             obtain rfl : ad406 = ad407 := (by injection e407)
             replace hx407_0 := (HB.out.cell (World.block_lt_of_cell? w _ hx407_0)).trans hx407_0
             replace hx407_1 := (HB.out.cell (World.block_lt_of_cell? w _ hx407_1)).trans hx407_1
             replace hx407_2 := (HB.out.cell (World.block_lt_of_cell? w _ hx407_2)).trans hx407_2
             have HR407_2 := Aside0.mk hi407_2
             have HC407_2 := Aside0.mk hl407_2
             clear hi407_2 hl407_2
             replace p407 := eq_true p407
             replace q407 := eq_true q407
             have ea_ := Option.some.inj (hx406_2.symm.trans hx407_2)
             injection ea_ with ea_ en_ ec_
             subst ea_
             subst ec_
             clear en_
             have p408 : 0 ≤ (x15_2 : Int) := od_
             have q408 : x15_2 < (t399.length : Int) := od_
             obtain ⟨ad408, A408_2, c408_2, e408, hx408_0, hx408_1, hx408_2, hl408_2, hi408_2⟩ := at_T46 (Kd.S_reads' HO_404001.out).2.2 x15_2 p408 q408
             obtain rfl : ad405 = ad408 := (by injection e408)
             obtain ⟨ce408, hce408, hMe408, hcc408⟩ := Kd.S_get HO_404001.out z46 x15_2 p408 (by first | exact q408 | exact od_ | (have e_ := (Kd.S_reads' HO_404001.out).1; omega))
             obtain ⟨ve408_2, rfl, ge408_2⟩ := k46_openM hMe408
             have hv408_2 := hcc408 2 _ rfl
             rw [add_field _ _ 2 (by omega)] at hv408_2
             replace hv408_2 := Option.some.inj (hv408_2.symm.trans hx408_2)
             rw [hv408_2] at ge408_2
             have HL408_2 := Aside0.mk (show Kd.R (Kd.int .i64) 3 _ _ _ _ ((rd_T46 t399 x15_2).f2) from ge408_2)
             clear hv408_2 ge408_2
             clear hcc408 hce408
             have HR408_2 := Aside0.mk hi408_2
             have HC408_2 := Aside0.mk hl408_2
             clear hi408_2 hl408_2
             replace p408 := eq_true p408
             replace q408 := eq_true q408
             have ea_ := Option.some.inj (hx405_2.symm.trans hx408_2)
             injection ea_ with ea_ en_ ec_
             subst ea_
             subst ec_
             clear en_
             refine start_ (n := 31) (S := fun w' => w'.cell? ⟨gb403, 0, none⟩ = some (.slice Ao22 t396.length co22) ∧ w'.cell? ⟨gb403, 1, none⟩ = some (.slice (some ad405) t399.length co25) ∧ w'.cell? ⟨gb385, 0, none⟩ = some (.slice A0_0 l0_0.length c0_0) ∧ w'.cell? ⟨gb385, 1, none⟩ = some (.slice (some ad406) l0_1.length c0_1) ∧ w'.cell? (ad405.add ((x15_2).toNat * 3)) = some (.int .i64 ((rd_T46 t399 x15_2).f0)) ∧ w'.cell? ⟨(ad405.add ((x15_2).toNat * 3)).block, (ad405.add ((x15_2).toNat * 3)).off + 1, none⟩ = some (.int .i64 ((rd_T46 t399 x15_2).f1)) ∧ w'.cell? ⟨(ad405.add ((x15_2).toNat * 3)).block, (ad405.add ((x15_2).toNat * 3)).off + 2, none⟩ = some (.slice A405_2 ((rd_T46 t399 x15_2).f2).length c405_2) ∧ w'.cell? (ad406.add ((x15_2).toNat * 3)) = some (.int .i64 ((rd_T46 l0_1 x15_2).f0)) ∧ w'.cell? ⟨(ad406.add ((x15_2).toNat * 3)).block, (ad406.add ((x15_2).toNat * 3)).off + 1, none⟩ = some (.int .i64 ((rd_T46 l0_1 x15_2).f1)) ∧ w'.cell? ⟨(ad406.add ((x15_2).toNat * 3)).block, (ad406.add ((x15_2).toNat * 3)).off + 2, none⟩ = some (.slice A406_2 ((rd_T46 l0_1 x15_2).f2).length c406_2) ∧ w'.cell? (ad406.add ((x15_2).toNat * 3)) = some (.int .i64 ((rd_T46 l0_1 x15_2).f0)) ∧ w'.cell? ⟨(ad406.add ((x15_2).toNat * 3)).block, (ad406.add ((x15_2).toNat * 3)).off + 1, none⟩ = some (.int .i64 ((rd_T46 l0_1 x15_2).f1)) ∧ w'.cell? ⟨(ad406.add ((x15_2).toNat * 3)).block, (ad406.add ((x15_2).toNat * 3)).off + 2, none⟩ = some (.slice A406_2 ((rd_T46 l0_1 x15_2).f2).length c406_2) ∧ w'.cell? (ad405.add ((x15_2).toNat * 3)) = some (.int .i64 ((rd_T46 t399 x15_2).f0)) ∧ w'.cell? ⟨(ad405.add ((x15_2).toNat * 3)).block, (ad405.add ((x15_2).toNat * 3)).off + 1, none⟩ = some (.int .i64 ((rd_T46 t399 x15_2).f1)) ∧ w'.cell? ⟨(ad405.add ((x15_2).toNat * 3)).block, (ad405.add ((x15_2).toNat * 3)).off + 2, none⟩ = some (.slice A405_2 ((rd_T46 t399 x15_2).f2).length c405_2)) (ds := []) #[n_, n_, n_, n_, n_, n_, n_, n_, n_, n_, n_, n_, n_, n_, n_, n_, n_, n_, n_, n_, n_, n_, n_, n_, n_, n_, n_, n_, n_, n_, n_] (by kernel_rfl) rfl rfl ⟨(blk_cell BK403.out 0).trans rfl, (blk_cell BK403.out 1).trans rfl, (blk_cell BK385.out 0).trans rfl, (blk_cell BK385.out 1).trans rfl, hx405_0, hx405_1, hx405_2, ((HB.out.cell (World.block_lt_of_cell? w _ hw406_0)).trans hw406_0), ((HB.out.cell (World.block_lt_of_cell? w _ hw406_1)).trans hw406_1), ((HB.out.cell (World.block_lt_of_cell? w _ hw406_2)).trans hw406_2), ((HB.out.cell (World.block_lt_of_cell? w _ hw407_0)).trans hw407_0), ((HB.out.cell (World.block_lt_of_cell? w _ hw407_1)).trans hw407_1), ((HB.out.cell (World.block_lt_of_cell? w _ hw407_2)).trans hw407_2), hx408_0, hx408_1, hx408_2⟩ (fun hHeld => ?_); refine with_tabW cohousinglaw26_ChainHomes.tab11 cohousinglaw26_ChainHomes.bits11 (fun HT_ HW_ => ?_)
             generalize wr.drew = w50 at HO_404000 HO_404001 BK385 BK403 HB HL405_2 HL408_2 HR405_2 HR406_2 HR407_2 HR408_2 hx405_0 hx405_1 hx405_2 hx406_0 hx406_1 hx406_2 hx407_0 hx407_1 hx407_2 hx408_0 hx408_1 hx408_2 hHeld ⊢
             refine pu_ 0 66 (w_ 31 1) rfl HT_ ?_
             refine pu_ 2 68 (w_ 31 5) rfl HT_ ?_
             refine pu_ 6 72 (w_ 31 69) rfl HT_ ?_
             refine pu_ 8 74 (w_ 31 325) rfl HT_ ?_
             refine ta_ 1 67 (w_ 31 327) rfl HT_ HW_ hHeld (by rintro w' ⟨s0, s1, s2, s3, s4, s5, s6, s7, s8, s9, s10, s11, s12, s13, s14, s15⟩; go_simp; with_reducible rfl) ?_
             refine pu_ 3 69 (w_ 31 335) rfl HT_ ?_
             refine pu_ 4 70 (w_ 31 351) rfl HT_ ?_
             refine ta_ 5 71 (w_ 31 383) rfl HT_ HW_ hHeld (by rintro w' ⟨s0, s1, s2, s3, s4, s5, s6, s7, s8, s9, s10, s11, s12, s13, s14, s15⟩; go_simp; with_reducible rfl) ?_
             refine ta_ 7 73 (w_ 31 511) rfl HT_ HW_ hHeld (by rintro w' ⟨s0, s1, s2, s3, s4, s5, s6, s7, s8, s9, s10, s11, s12, s13, s14, s15⟩; go_simp; with_reducible rfl) ?_
             refine pu_ 9 75 (w_ 31 1023) rfl HT_ ?_
             refine pu_ 10 76 (w_ 31 2047) rfl HT_ ?_
             refine ta_ 11 77 (w_ 31 4095) rfl HT_ HW_ hHeld (by rintro w' ⟨s0, s1, s2, s3, s4, s5, s6, s7, s8, s9, s10, s11, s12, s13, s14, s15⟩; go_simp; with_reducible rfl) ?_
             refine pu_ 12 78 (w_ 31 8191) rfl HT_ ?_
             refine pu_ 13 79 (w_ 31 16383) rfl HT_ ?_
             refine pu_ 14 80 (w_ 31 32767) rfl HT_ ?_
             refine pu_ 16 82 (w_ 31 98303) rfl HT_ ?_
             refine ta_ 15 81 (w_ 31 131071) rfl HT_ HW_ hHeld (by rintro w' ⟨s0, s1, s2, s3, s4, s5, s6, s7, s8, s9, s10, s11, s12, s13, s14, s15⟩; go_simp; with_reducible rfl) ?_
             refine pu_ 17 83 (w_ 31 262143) rfl HT_ ?_
             refine pu_ 18 84 (w_ 31 524287) rfl HT_ ?_
             refine ta_ 19 85 (w_ 31 1048575) rfl HT_ HW_ hHeld (by rintro w' ⟨s0, s1, s2, s3, s4, s5, s6, s7, s8, s9, s10, s11, s12, s13, s14, s15⟩; go_simp; with_reducible rfl) ?_
             refine pu_ 20 86 (w_ 31 2097151) rfl HT_ ?_
             refine pu_ 21 87 (w_ 31 4194303) rfl HT_ ?_
             refine pu_ 22 88 (w_ 31 8388607) rfl HT_ ?_
             refine pu_ 24 90 (w_ 31 25165823) rfl HT_ ?_
             refine ta_ 23 89 (w_ 31 33554431) rfl HT_ HW_ hHeld (by rintro w' ⟨s0, s1, s2, s3, s4, s5, s6, s7, s8, s9, s10, s11, s12, s13, s14, s15⟩; go_simp; with_reducible rfl) ?_
             refine pu_ 25 91 (w_ 31 67108863) rfl HT_ ?_
             refine pu_ 26 92 (w_ 31 134217727) rfl HT_ ?_
             refine ta_ 27 93 (w_ 31 268435455) rfl HT_ HW_ hHeld (by rintro w' ⟨s0, s1, s2, s3, s4, s5, s6, s7, s8, s9, s10, s11, s12, s13, s14, s15⟩; go_simp; with_reducible rfl) ?_
             refine pu_ 28 94 (w_ 31 536870911) rfl HT_ ?_
             refine pu_ 29 95 (w_ 31 1073741823) rfl HT_ ?_
             refine pu_ 30 96 (w_ 31 2147483647) rfl HT_ ?_
             refine done_ (done_of HT_.out (by kernel_rfl)) ?_
             try go_wp2
             go_ret
             exact ⟨ew_, by repeat (first | (with_reducible first | exact HB.out | apply below_alloc | apply pw_below_drewN | apply below_drew1 | refine below_set ?_ GE385.out | refine below_set ?_ GE403.out) | exact HB.out)⟩
            ·rw [if_neg c47] at H
             have c47b0 : (((rd_T46 t399 x15_2).f1) == 0) = false := beq_eq_false_iff_ne.mpr c47
             have c47b1 : (((rd_T46 t399 x15_2).f1) != 0) = true := bne_iff_ne.mpr c47
             have H' := Aside0.mk H
             clear H
             have hnb51 := NB385_403.out
             have hnc51 := NB403_385.out
             have hcz52_0 : wr.cell? ⟨gb385, 0, none⟩ = some (.slice A0_0 l0_0.length c0_0) := (blk_cell BK385.out 0).trans rfl
             have hcz52_1 : wr.cell? ⟨gb385, 1, none⟩ = some (.slice A0_1 l0_1.length c0_1) := (blk_cell BK385.out 1).trans rfl
             have hfz52_0 := blk_frozen BK385.out 0
             have hfz52_1 := blk_frozen BK385.out 1
             try go_wp2
             have n0_ := Aside0.mk (Kd.R_drew HO_404000.out)
             have n1_ := Aside0.mk (Kd.S_drew HO_404001.out)
             have n2_ := Aside0.mk (blk_drew BK385.out)
             have n3_ := Aside0.mk (blk_drew BK403.out)
             have n4_ := Aside0.mk (below_drew1 HB.out)
             clear HO_404000
             clear HO_404001
             clear BK385
             clear BK403
             clear HB
             have HO_404000 := n0_
             have HO_404001 := n1_
             have BK385 := n2_
             have BK403 := n3_
             have HB := n4_
             clear n0_ n1_ n2_ n3_ n4_
             have p405 : 0 ≤ (x15_2 : Int) := od_
             have q405 : x15_2 < (t399.length : Int) := od_
             obtain ⟨ad405, A405_2, c405_2, e405, hx405_0, hx405_1, hx405_2, hl405_2, hi405_2⟩ := at_T46 (Kd.S_reads' HO_404001.out).2.2 x15_2 p405 q405
             cases e405
             obtain ⟨ce405, hce405, hMe405, hcc405⟩ := Kd.S_get HO_404001.out z46 x15_2 p405 (by first | exact q405 | exact od_ | (have e_ := (Kd.S_reads' HO_404001.out).1; omega))
             obtain ⟨ve405_2, rfl, ge405_2⟩ := k46_openM hMe405
             have hv405_2 := hcc405 2 _ rfl
             rw [add_field _ _ 2 (by omega)] at hv405_2
             replace hv405_2 := Option.some.inj (hv405_2.symm.trans hx405_2)
             rw [hv405_2] at ge405_2
             have HL405_2 := Aside0.mk (show Kd.R (Kd.int .i64) 3 _ _ _ _ ((rd_T46 t399 x15_2).f2) from ge405_2)
             clear hv405_2 ge405_2
             clear hcc405 hce405
             have HR405_2 := Aside0.mk hi405_2
             have HC405_2 := Aside0.mk hl405_2
             clear hi405_2 hl405_2
             replace p405 := eq_true p405
             replace q405 := eq_true q405
             have p406 : 0 ≤ (x15_2 : Int) := od_
             have q406 : x15_2 < (l0_1.length : Int) := od_
             obtain ⟨ad406, A406_2, c406_2, e406, hx406_0, hx406_1, hx406_2, hl406_2, hi406_2⟩ := at_T46 HR0_1.out x15_2 p406 q406
             have hw406_2 := hx406_2
             have hw406_1 := hx406_1
             have hw406_0 := hx406_0
             cases e406
             replace hx406_0 := (HB.out.cell (World.block_lt_of_cell? w _ hx406_0)).trans hx406_0
             replace hx406_1 := (HB.out.cell (World.block_lt_of_cell? w _ hx406_1)).trans hx406_1
             replace hx406_2 := (HB.out.cell (World.block_lt_of_cell? w _ hx406_2)).trans hx406_2
             have HR406_2 := Aside0.mk hi406_2
             have HC406_2 := Aside0.mk hl406_2
             clear hi406_2 hl406_2
             replace p406 := eq_true p406
             replace q406 := eq_true q406
             have p407 : 0 ≤ (x15_2 : Int) := od_
             have q407 : x15_2 < (l0_1.length : Int) := od_
             obtain ⟨ad407, A407_2, c407_2, e407, hx407_0, hx407_1, hx407_2, hl407_2, hi407_2⟩ := at_T46 HR0_1.out x15_2 p407 q407
             have hw407_2 := hx407_2
             have hw407_1 := hx407_1
             have hw407_0 := hx407_0
             obtain rfl : ad406 = ad407 := (by injection e407)
             replace hx407_0 := (HB.out.cell (World.block_lt_of_cell? w _ hx407_0)).trans hx407_0
             replace hx407_1 := (HB.out.cell (World.block_lt_of_cell? w _ hx407_1)).trans hx407_1
             replace hx407_2 := (HB.out.cell (World.block_lt_of_cell? w _ hx407_2)).trans hx407_2
             have HR407_2 := Aside0.mk hi407_2
             have HC407_2 := Aside0.mk hl407_2
             clear hi407_2 hl407_2
             replace p407 := eq_true p407
             replace q407 := eq_true q407
             have ea_ := Option.some.inj (hx406_2.symm.trans hx407_2)
             injection ea_ with ea_ en_ ec_
             subst ea_
             subst ec_
             clear en_
             have p408 : 0 ≤ (x15_2 : Int) := od_
             have q408 : x15_2 < (t399.length : Int) := od_
             obtain ⟨ad408, A408_2, c408_2, e408, hx408_0, hx408_1, hx408_2, hl408_2, hi408_2⟩ := at_T46 (Kd.S_reads' HO_404001.out).2.2 x15_2 p408 q408
             obtain rfl : ad405 = ad408 := (by injection e408)
             obtain ⟨ce408, hce408, hMe408, hcc408⟩ := Kd.S_get HO_404001.out z46 x15_2 p408 (by first | exact q408 | exact od_ | (have e_ := (Kd.S_reads' HO_404001.out).1; omega))
             obtain ⟨ve408_2, rfl, ge408_2⟩ := k46_openM hMe408
             have hv408_2 := hcc408 2 _ rfl
             rw [add_field _ _ 2 (by omega)] at hv408_2
             replace hv408_2 := Option.some.inj (hv408_2.symm.trans hx408_2)
             rw [hv408_2] at ge408_2
             have HL408_2 := Aside0.mk (show Kd.R (Kd.int .i64) 3 _ _ _ _ ((rd_T46 t399 x15_2).f2) from ge408_2)
             clear hv408_2 ge408_2
             clear hcc408 hce408
             have HR408_2 := Aside0.mk hi408_2
             have HC408_2 := Aside0.mk hl408_2
             clear hi408_2 hl408_2
             replace p408 := eq_true p408
             replace q408 := eq_true q408
             have ea_ := Option.some.inj (hx405_2.symm.trans hx408_2)
             injection ea_ with ea_ en_ ec_
             subst ea_
             subst ec_
             clear en_
             refine start_ (n := 31) (S := fun w' => w'.cell? ⟨gb403, 0, none⟩ = some (.slice Ao22 t396.length co22) ∧ w'.cell? ⟨gb403, 1, none⟩ = some (.slice (some ad405) t399.length co25) ∧ w'.cell? ⟨gb385, 0, none⟩ = some (.slice A0_0 l0_0.length c0_0) ∧ w'.cell? ⟨gb385, 1, none⟩ = some (.slice (some ad406) l0_1.length c0_1) ∧ w'.cell? (ad405.add ((x15_2).toNat * 3)) = some (.int .i64 ((rd_T46 t399 x15_2).f0)) ∧ w'.cell? ⟨(ad405.add ((x15_2).toNat * 3)).block, (ad405.add ((x15_2).toNat * 3)).off + 1, none⟩ = some (.int .i64 ((rd_T46 t399 x15_2).f1)) ∧ w'.cell? ⟨(ad405.add ((x15_2).toNat * 3)).block, (ad405.add ((x15_2).toNat * 3)).off + 2, none⟩ = some (.slice A405_2 ((rd_T46 t399 x15_2).f2).length c405_2) ∧ w'.cell? (ad406.add ((x15_2).toNat * 3)) = some (.int .i64 ((rd_T46 l0_1 x15_2).f0)) ∧ w'.cell? ⟨(ad406.add ((x15_2).toNat * 3)).block, (ad406.add ((x15_2).toNat * 3)).off + 1, none⟩ = some (.int .i64 ((rd_T46 l0_1 x15_2).f1)) ∧ w'.cell? ⟨(ad406.add ((x15_2).toNat * 3)).block, (ad406.add ((x15_2).toNat * 3)).off + 2, none⟩ = some (.slice A406_2 ((rd_T46 l0_1 x15_2).f2).length c406_2) ∧ w'.cell? (ad406.add ((x15_2).toNat * 3)) = some (.int .i64 ((rd_T46 l0_1 x15_2).f0)) ∧ w'.cell? ⟨(ad406.add ((x15_2).toNat * 3)).block, (ad406.add ((x15_2).toNat * 3)).off + 1, none⟩ = some (.int .i64 ((rd_T46 l0_1 x15_2).f1)) ∧ w'.cell? ⟨(ad406.add ((x15_2).toNat * 3)).block, (ad406.add ((x15_2).toNat * 3)).off + 2, none⟩ = some (.slice A406_2 ((rd_T46 l0_1 x15_2).f2).length c406_2) ∧ w'.cell? (ad405.add ((x15_2).toNat * 3)) = some (.int .i64 ((rd_T46 t399 x15_2).f0)) ∧ w'.cell? ⟨(ad405.add ((x15_2).toNat * 3)).block, (ad405.add ((x15_2).toNat * 3)).off + 1, none⟩ = some (.int .i64 ((rd_T46 t399 x15_2).f1)) ∧ w'.cell? ⟨(ad405.add ((x15_2).toNat * 3)).block, (ad405.add ((x15_2).toNat * 3)).off + 2, none⟩ = some (.slice A405_2 ((rd_T46 t399 x15_2).f2).length c405_2)) (ds := []) #[n_, n_, n_, n_, n_, n_, n_, n_, n_, n_, n_, n_, n_, n_, n_, n_, n_, n_, n_, n_, n_, n_, n_, n_, n_, n_, n_, n_, n_, n_, n_] (by kernel_rfl) rfl rfl ⟨(blk_cell BK403.out 0).trans rfl, (blk_cell BK403.out 1).trans rfl, (blk_cell BK385.out 0).trans rfl, (blk_cell BK385.out 1).trans rfl, hx405_0, hx405_1, hx405_2, ((HB.out.cell (World.block_lt_of_cell? w _ hw406_0)).trans hw406_0), ((HB.out.cell (World.block_lt_of_cell? w _ hw406_1)).trans hw406_1), ((HB.out.cell (World.block_lt_of_cell? w _ hw406_2)).trans hw406_2), ((HB.out.cell (World.block_lt_of_cell? w _ hw407_0)).trans hw407_0), ((HB.out.cell (World.block_lt_of_cell? w _ hw407_1)).trans hw407_1), ((HB.out.cell (World.block_lt_of_cell? w _ hw407_2)).trans hw407_2), hx408_0, hx408_1, hx408_2⟩ (fun hHeld => ?_); refine with_tabW cohousinglaw26_ChainHomes.tab11 cohousinglaw26_ChainHomes.bits11 (fun HT_ HW_ => ?_)
             generalize wr.drew = w53 at HO_404000 HO_404001 BK385 BK403 HB HL405_2 HL408_2 HR405_2 HR406_2 HR407_2 HR408_2 hx405_0 hx405_1 hx405_2 hx406_0 hx406_1 hx406_2 hx407_0 hx407_1 hx407_2 hx408_0 hx408_1 hx408_2 hHeld ⊢
             refine pu_ 0 66 (w_ 31 1) rfl HT_ ?_
             refine pu_ 2 68 (w_ 31 5) rfl HT_ ?_
             refine pu_ 6 72 (w_ 31 69) rfl HT_ ?_
             refine pu_ 8 74 (w_ 31 325) rfl HT_ ?_
             refine ta_ 1 67 (w_ 31 327) rfl HT_ HW_ hHeld (by rintro w' ⟨s0, s1, s2, s3, s4, s5, s6, s7, s8, s9, s10, s11, s12, s13, s14, s15⟩; go_simp; with_reducible rfl) ?_
             refine pu_ 3 69 (w_ 31 335) rfl HT_ ?_
             refine pu_ 4 70 (w_ 31 351) rfl HT_ ?_
             refine ta_ 5 71 (w_ 31 383) rfl HT_ HW_ hHeld (by rintro w' ⟨s0, s1, s2, s3, s4, s5, s6, s7, s8, s9, s10, s11, s12, s13, s14, s15⟩; go_simp; with_reducible rfl) ?_
             refine ta_ 7 73 (w_ 31 511) rfl HT_ HW_ hHeld (by rintro w' ⟨s0, s1, s2, s3, s4, s5, s6, s7, s8, s9, s10, s11, s12, s13, s14, s15⟩; go_simp; with_reducible rfl) ?_
             refine pu_ 9 75 (w_ 31 1023) rfl HT_ ?_
             refine pu_ 10 76 (w_ 31 2047) rfl HT_ ?_
             refine ta_ 11 77 (w_ 31 4095) rfl HT_ HW_ hHeld (by rintro w' ⟨s0, s1, s2, s3, s4, s5, s6, s7, s8, s9, s10, s11, s12, s13, s14, s15⟩; go_simp; with_reducible rfl) ?_
             refine pu_ 12 78 (w_ 31 8191) rfl HT_ ?_
             refine pu_ 13 79 (w_ 31 16383) rfl HT_ ?_
             refine pu_ 14 80 (w_ 31 32767) rfl HT_ ?_
             refine pu_ 16 82 (w_ 31 98303) rfl HT_ ?_
             refine ta_ 15 81 (w_ 31 131071) rfl HT_ HW_ hHeld (by rintro w' ⟨s0, s1, s2, s3, s4, s5, s6, s7, s8, s9, s10, s11, s12, s13, s14, s15⟩; go_simp; with_reducible rfl) ?_
             refine pu_ 17 83 (w_ 31 262143) rfl HT_ ?_
             refine pu_ 18 84 (w_ 31 524287) rfl HT_ ?_
             refine ta_ 19 85 (w_ 31 1048575) rfl HT_ HW_ hHeld (by rintro w' ⟨s0, s1, s2, s3, s4, s5, s6, s7, s8, s9, s10, s11, s12, s13, s14, s15⟩; go_simp; with_reducible rfl) ?_
             refine pu_ 20 86 (w_ 31 2097151) rfl HT_ ?_
             refine pu_ 21 87 (w_ 31 4194303) rfl HT_ ?_
             refine pu_ 22 88 (w_ 31 8388607) rfl HT_ ?_
             refine pu_ 24 90 (w_ 31 25165823) rfl HT_ ?_
             refine ta_ 23 89 (w_ 31 33554431) rfl HT_ HW_ hHeld (by rintro w' ⟨s0, s1, s2, s3, s4, s5, s6, s7, s8, s9, s10, s11, s12, s13, s14, s15⟩; go_simp; with_reducible rfl) ?_
             refine pu_ 25 91 (w_ 31 67108863) rfl HT_ ?_
             refine pu_ 26 92 (w_ 31 134217727) rfl HT_ ?_
             refine ta_ 27 93 (w_ 31 268435455) rfl HT_ HW_ hHeld (by rintro w' ⟨s0, s1, s2, s3, s4, s5, s6, s7, s8, s9, s10, s11, s12, s13, s14, s15⟩; go_simp; with_reducible rfl) ?_
             refine pu_ 28 94 (w_ 31 536870911) rfl HT_ ?_
             refine pu_ 29 95 (w_ 31 1073741823) rfl HT_ ?_
             refine pu_ 30 96 (w_ 31 2147483647) rfl HT_ ?_
             refine done_ (done_of HT_.out (by kernel_rfl)) ?_
             try go_wp2
             go_roundg k2
             case measure => have := HJ10.out; have := HK2.out; omega
             case rel => exact ⟨(wrap64 (x15_2 + 1)), sd_, H', ⟨by have := HJ10.out; have := HK2.out; omega⟩, ⟨by (with_reducible repeat (first | apply Kd.R_alloc | apply Kd.R_drewN | apply Kd.R_drew)); exact HO_404000.out⟩, ⟨by (with_reducible repeat (first | apply Kd.S_alloc | apply Kd.S_drewN | apply Kd.S_drew)); exact HO_404001.out⟩, ⟨by (with_reducible repeat (first | refine blk_drewN ?_ _ | refine blk_drew ?_ | refine blk_alloc ?_ _)); exact BK385.out⟩, ⟨by (with_reducible repeat (first | refine blk_drewN ?_ _ | refine blk_drew ?_ | refine blk_alloc ?_ _)); exact BK403.out⟩, ⟨by repeat (first | (with_reducible first | exact HB.out | apply below_alloc | apply pw_below_drewN | apply below_drew1 | refine below_set ?_ GE385.out | refine below_set ?_ GE403.out) | exact HB.out)⟩⟩
          ·rw [if_neg c42] at H
           have c42b0 : (((rd_T46 t399 x15_2).f0) == ((rd_T46 l0_1 x15_2).f0)) = false := beq_eq_false_iff_ne.mpr c42
           have c42b1 : (((rd_T46 t399 x15_2).f0) != ((rd_T46 l0_1 x15_2).f0)) = true := bne_iff_ne.mpr c42
           obtain rfl := Option.some.inj H
           have hnb54 := NB385_403.out
           have hnc54 := NB403_385.out
           have hcz55_0 : wr.cell? ⟨gb385, 0, none⟩ = some (.slice A0_0 l0_0.length c0_0) := (blk_cell BK385.out 0).trans rfl
           have hcz55_1 : wr.cell? ⟨gb385, 1, none⟩ = some (.slice A0_1 l0_1.length c0_1) := (blk_cell BK385.out 1).trans rfl
           have hfz55_0 := blk_frozen BK385.out 0
           have hfz55_1 := blk_frozen BK385.out 1
           try go_wp2
           have n0_ := Aside0.mk (Kd.R_drew HO_404000.out)
           have n1_ := Aside0.mk (Kd.S_drew HO_404001.out)
           have n2_ := Aside0.mk (blk_drew BK385.out)
           have n3_ := Aside0.mk (blk_drew BK403.out)
           have n4_ := Aside0.mk (below_drew1 HB.out)
           clear HO_404000
           clear HO_404001
           clear BK385
           clear BK403
           clear HB
           have HO_404000 := n0_
           have HO_404001 := n1_
           have BK385 := n2_
           have BK403 := n3_
           have HB := n4_
           clear n0_ n1_ n2_ n3_ n4_
           have p405 : 0 ≤ (x15_2 : Int) := od_
           have q405 : x15_2 < (t399.length : Int) := od_
           obtain ⟨ad405, A405_2, c405_2, e405, hx405_0, hx405_1, hx405_2, hl405_2, hi405_2⟩ := at_T46 (Kd.S_reads' HO_404001.out).2.2 x15_2 p405 q405
           cases e405
           obtain ⟨ce405, hce405, hMe405, hcc405⟩ := Kd.S_get HO_404001.out z46 x15_2 p405 (by first | exact q405 | exact od_ | (have e_ := (Kd.S_reads' HO_404001.out).1; omega))
           obtain ⟨ve405_2, rfl, ge405_2⟩ := k46_openM hMe405
           have hv405_2 := hcc405 2 _ rfl
           rw [add_field _ _ 2 (by omega)] at hv405_2
           replace hv405_2 := Option.some.inj (hv405_2.symm.trans hx405_2)
           rw [hv405_2] at ge405_2
           have HL405_2 := Aside0.mk (show Kd.R (Kd.int .i64) 3 _ _ _ _ ((rd_T46 t399 x15_2).f2) from ge405_2)
           clear hv405_2 ge405_2
           clear hcc405 hce405
           have HR405_2 := Aside0.mk hi405_2
           have HC405_2 := Aside0.mk hl405_2
           clear hi405_2 hl405_2
           replace p405 := eq_true p405
           replace q405 := eq_true q405
           have p406 : 0 ≤ (x15_2 : Int) := od_
           have q406 : x15_2 < (l0_1.length : Int) := od_
           obtain ⟨ad406, A406_2, c406_2, e406, hx406_0, hx406_1, hx406_2, hl406_2, hi406_2⟩ := at_T46 HR0_1.out x15_2 p406 q406
           have hw406_2 := hx406_2
           have hw406_1 := hx406_1
           have hw406_0 := hx406_0
           cases e406
           replace hx406_0 := (HB.out.cell (World.block_lt_of_cell? w _ hx406_0)).trans hx406_0
           replace hx406_1 := (HB.out.cell (World.block_lt_of_cell? w _ hx406_1)).trans hx406_1
           replace hx406_2 := (HB.out.cell (World.block_lt_of_cell? w _ hx406_2)).trans hx406_2
           have HR406_2 := Aside0.mk hi406_2
           have HC406_2 := Aside0.mk hl406_2
           clear hi406_2 hl406_2
           replace p406 := eq_true p406
           replace q406 := eq_true q406
           refine start_ (n := 31) (S := fun w' => w'.cell? ⟨gb403, 0, none⟩ = some (.slice Ao22 t396.length co22) ∧ w'.cell? ⟨gb403, 1, none⟩ = some (.slice (some ad405) t399.length co25) ∧ w'.cell? ⟨gb385, 0, none⟩ = some (.slice A0_0 l0_0.length c0_0) ∧ w'.cell? ⟨gb385, 1, none⟩ = some (.slice (some ad406) l0_1.length c0_1) ∧ w'.cell? (ad405.add ((x15_2).toNat * 3)) = some (.int .i64 ((rd_T46 t399 x15_2).f0)) ∧ w'.cell? ⟨(ad405.add ((x15_2).toNat * 3)).block, (ad405.add ((x15_2).toNat * 3)).off + 1, none⟩ = some (.int .i64 ((rd_T46 t399 x15_2).f1)) ∧ w'.cell? ⟨(ad405.add ((x15_2).toNat * 3)).block, (ad405.add ((x15_2).toNat * 3)).off + 2, none⟩ = some (.slice A405_2 ((rd_T46 t399 x15_2).f2).length c405_2) ∧ w'.cell? (ad406.add ((x15_2).toNat * 3)) = some (.int .i64 ((rd_T46 l0_1 x15_2).f0)) ∧ w'.cell? ⟨(ad406.add ((x15_2).toNat * 3)).block, (ad406.add ((x15_2).toNat * 3)).off + 1, none⟩ = some (.int .i64 ((rd_T46 l0_1 x15_2).f1)) ∧ w'.cell? ⟨(ad406.add ((x15_2).toNat * 3)).block, (ad406.add ((x15_2).toNat * 3)).off + 2, none⟩ = some (.slice A406_2 ((rd_T46 l0_1 x15_2).f2).length c406_2)) (ds := []) #[n_, n_, n_, n_, n_, n_, n_, n_, n_, n_, n_, n_, n_, n_, n_, n_, n_, n_, n_, n_, n_, n_, n_, n_, n_, n_, n_, n_, n_, n_, n_] (by kernel_rfl) rfl rfl ⟨(blk_cell BK403.out 0).trans rfl, (blk_cell BK403.out 1).trans rfl, (blk_cell BK385.out 0).trans rfl, (blk_cell BK385.out 1).trans rfl, hx405_0, hx405_1, hx405_2, ((HB.out.cell (World.block_lt_of_cell? w _ hw406_0)).trans hw406_0), ((HB.out.cell (World.block_lt_of_cell? w _ hw406_1)).trans hw406_1), ((HB.out.cell (World.block_lt_of_cell? w _ hw406_2)).trans hw406_2)⟩ (fun hHeld => ?_); refine with_tabW cohousinglaw26_ChainHomes.tab11 cohousinglaw26_ChainHomes.bits11 (fun HT_ HW_ => ?_)
           generalize wr.drew = w56 at HO_404000 HO_404001 BK385 BK403 HB HL405_2 HR405_2 HR406_2 hx405_0 hx405_1 hx405_2 hx406_0 hx406_1 hx406_2 hHeld ⊢
           refine pu_ 0 66 (w_ 31 1) rfl HT_ ?_
           refine pu_ 2 68 (w_ 31 5) rfl HT_ ?_
           refine pu_ 6 72 (w_ 31 69) rfl HT_ ?_
           refine pu_ 8 74 (w_ 31 325) rfl HT_ ?_
           refine ta_ 1 67 (w_ 31 327) rfl HT_ HW_ hHeld (by rintro w' ⟨s0, s1, s2, s3, s4, s5, s6, s7, s8, s9⟩; go_simp; with_reducible rfl) ?_
           refine pu_ 3 69 (w_ 31 335) rfl HT_ ?_
           refine pu_ 4 70 (w_ 31 351) rfl HT_ ?_
           refine ta_ 5 71 (w_ 31 383) rfl HT_ HW_ hHeld (by rintro w' ⟨s0, s1, s2, s3, s4, s5, s6, s7, s8, s9⟩; go_simp; with_reducible rfl) ?_
           refine ta_ 7 73 (w_ 31 511) rfl HT_ HW_ hHeld (by rintro w' ⟨s0, s1, s2, s3, s4, s5, s6, s7, s8, s9⟩; go_simp; with_reducible rfl) ?_
           refine pu_ 9 75 (w_ 31 1023) rfl HT_ ?_
           refine pu_ 10 76 (w_ 31 2047) rfl HT_ ?_
           refine ta_ 11 77 (w_ 31 4095) rfl HT_ HW_ hHeld (by rintro w' ⟨s0, s1, s2, s3, s4, s5, s6, s7, s8, s9⟩; go_simp; with_reducible rfl) ?_
           refine pu_ 12 78 (w_ 31 8191) rfl HT_ ?_
           refine pu_ 13 79 (w_ 31 16383) rfl HT_ ?_
           refine pn_ 14 80 (w_ 31 32767) rfl HT_ ?_
           refine pn_ 15 81 (w_ 31 65535) rfl HT_ ?_
           refine pn_ 16 82 (w_ 31 131071) rfl HT_ ?_
           refine pn_ 17 83 (w_ 31 262143) rfl HT_ ?_
           refine pn_ 18 84 (w_ 31 524287) rfl HT_ ?_
           refine pn_ 19 85 (w_ 31 1048575) rfl HT_ ?_
           refine pn_ 20 86 (w_ 31 2097151) rfl HT_ ?_
           refine pn_ 21 87 (w_ 31 4194303) rfl HT_ ?_
           refine pn_ 22 88 (w_ 31 8388607) rfl HT_ ?_
           refine pn_ 23 89 (w_ 31 16777215) rfl HT_ ?_
           refine pn_ 24 90 (w_ 31 33554431) rfl HT_ ?_
           refine pn_ 25 91 (w_ 31 67108863) rfl HT_ ?_
           refine pn_ 26 92 (w_ 31 134217727) rfl HT_ ?_
           refine pn_ 27 93 (w_ 31 268435455) rfl HT_ ?_
           refine pn_ 28 94 (w_ 31 536870911) rfl HT_ ?_
           refine pn_ 29 95 (w_ 31 1073741823) rfl HT_ ?_
           refine pu_ 30 96 (w_ 31 2147483647) rfl HT_ ?_
           refine done_ (done_of HT_.out (by kernel_rfl)) ?_
           try go_wp2
           go_ret
           exact ⟨ew_, by repeat (first | (with_reducible first | exact HB.out | apply below_alloc | apply pw_below_drewN | apply below_drew1 | refine below_set ?_ GE385.out | refine below_set ?_ GE403.out) | exact HB.out)⟩
         ·rw [if_neg c41] at H
          exact absurd H (by simp)
        ·rw [if_neg c40] at H
         exact absurd H (by simp)
       ·rw [if_neg c39] at H
        have c39b0 : decide (x15_2 < (l0_1.length : Int)) = false := decide_eq_false c39
        clear c39
        obtain rfl := Option.some.inj H
        have hnb57 := NB385_403.out
        have hnc57 := NB403_385.out
        have hcz58_0 : wr.cell? ⟨gb385, 0, none⟩ = some (.slice A0_0 l0_0.length c0_0) := (blk_cell BK385.out 0).trans rfl
        have hcz58_1 : wr.cell? ⟨gb385, 1, none⟩ = some (.slice A0_1 l0_1.length c0_1) := (blk_cell BK385.out 1).trans rfl
        have hfz58_0 := blk_frozen BK385.out 0
        have hfz58_1 := blk_frozen BK385.out 1
        go_wp2
        go_ret
        exact ⟨ew_, by repeat (first | (with_reducible first | exact HB.out | apply below_alloc | apply pw_below_drewN | apply below_drew1 | refine below_set ?_ GE385.out | refine below_set ?_ GE403.out) | exact HB.out)⟩
 ·replace c7 := Bool.eq_false_iff.mpr c7
  subst c7
  have H1 : (some t386) = some r := by rw [if_neg (show ¬ (false = true) by decide)] at H; exact H
  clear H
  have H := H1
  clear H1
  obtain rfl := Option.some.inj H
  go_enter Try.func4, Try.ntmps4
  go_wp2_with (first | ((with_reducible refine gate_dst (N := 4) rfl ?_); (try (refine gate_guard (by rfl) ?_; dsimp only)); refine box_event ?hg (N := 4) ?hd (cs := #[.slice A0_0 l0_0.length c0_0, .slice A0_1 l0_1.length c0_1]) (t := 25) ?hr ?_; (case hd => rfl); (case hg => rfl); (case hr => first | (go_simp; done) | (go_simp; rfl)); intro gb385 hg w59 hbox hb; have n0_ := Aside0.mk (below_step (bb_ HB) hb); have n1_ := Aside0.mk (hbox); have n2_ := Aside0.mk ((by rw [hg]; exact (below_size (bb_ HB)) : w.heap.size ≤ gb385)); have n3_ := Aside0.mk ((by rw [hg]; exact (below_size (bb_ HB)) : w.heap.size ≤ gb385)); clear HB; have HB := n0_; have BK385 := n1_; have GW385 := n2_; have GE385 := n3_; clear n0_ n1_ n2_ n3_; clear hb hbox hg) | ((with_reducible refine gate_callee (f := 10) rfl ?_); refine gl_ (some 16) Try.func10 #[] ?_; (with_reducible refine (cohousinglaw26_head.calls k  t386 _ A5.out).mono ?_); rintro e w60 ⟨rfl, hb⟩; refine ⟨_, rfl, ?_⟩; have n0_ := Aside0.mk (blk_below (g := gb385) (o := .cells #[.slice A0_0 l0_0.length c0_0, .slice A0_1 l0_1.length c0_1] 25 (0, 0)) (kk_ BK385) hb); have n1_ := Aside0.mk (below_step (bs_ HB GE385.out) hb); clear BK385; clear HB; have BK385 := n0_; have HB := n1_; clear n0_ n1_; (try clear hb); (try clear hb2); (try clear hk); (try clear hi); have hcz61_0 : w60.cell? ⟨gb385, 0, none⟩ = some (.slice A0_0 l0_0.length c0_0) := (blk_cell BK385.out 0).trans rfl; have hcz61_1 : w60.cell? ⟨gb385, 1, none⟩ = some (.slice A0_1 l0_1.length c0_1) := (blk_cell BK385.out 1).trans rfl; have hfz61_0 := blk_frozen BK385.out 0; have hfz61_1 := blk_frozen BK385.out 1) | ((with_reducible refine gate_callee (f := 20) rfl ?_); refine gl_ (some 20) Try.func20 #[.agg #[.slice A0_0 l0_0.length c0_0, .slice A0_1 l0_1.length c0_1], .slice A1 l1.length c1, .slice A3 l3.length c3] ?_; (with_reducible refine (cohousinglaw26_usable.calls k _ _ l0_0 _ _ l0_1 _ _ l1 _ _ l3 false _ ?side1 ?side2 ?side3 ?side4 ?side5 ?side6 ?side7 ?side8 A6.out).mono ?_); (case side1 => exact cc_ ((Kd.C_below HR0_0.out HB.out))); (case side2 => exact HC0_0.out); (case side3 => exact cc_ ((Kd.C_below HR0_1.out HB.out))); (case side4 => exact HC0_1.out); (case side5 => exact cc_ ((Kd.C_below HR1.out HB.out))); (case side6 => exact HC1.out); (case side7 => exact cc_ ((Kd.C_below HR3.out HB.out))); (case side8 => exact HC3.out); rintro e w62 ⟨rfl, hb⟩; refine ⟨_, rfl, ?_⟩; have n0_ := Aside0.mk (blk_below (g := gb385) (o := .cells #[.slice A0_0 l0_0.length c0_0, .slice A0_1 l0_1.length c0_1] 25 (0, 0)) (kk_ BK385) hb); have n1_ := Aside0.mk (below_step (bs_ HB GE385.out) hb); clear BK385; clear HB; have BK385 := n0_; have HB := n1_; clear n0_ n1_; (try clear hb); (try clear hb2); (try clear hk); (try clear hi)))
  go_ret
  exact ⟨ew_, by repeat (first | (with_reducible first | exact HB.out | apply below_alloc | apply pw_below_drewN | apply below_drew1 | refine below_set ?_ GE385.out) | exact HB.out)⟩
end
end Go.Proofs.Ytocbiggglnpeoaa.P
end
section
namespace Go.Proofs.Ytocbiggglnpeoaa.P
open Go.RowKit Go.Proofs.YtocbiggglnpeoaaW.PrintWords Go.Proofs.YtocbiggglnpeoaaW.PrintLast Go.Proofs.YtocbiggglnpeoaaW.PrintMore Go.Proofs.YtocbiggglnpeoaaH
open Classical
theorem homes_ (fl : List FT) (pa : List PT) (l : List GT) (a : Int) (rs : List YT) (ha : 0 ≤ a ∧ a ≤ 65535) : Ev (fun k => cohousinglaw26_ChainHomes.f k fl pa l a rs) true := by
 unfold cohousinglaw26_ChainHomes.f
 refine Ev.bnd head26 ?_
 refine Ev.bnd (usable_f fl pa l rs) ?_
 by_cases U : Usable fl pa l rs
 ·have e1 := runR_ok U.m U.r U.y (show 0 ≤ a % 36525 by omega) (show a % 36525 ≤ 36524 by omega)
  have e2 := Run_f (rs := rs) (a % 36525) U.fm U.fr.len U.fr.m (by have := U.fr.r; omega)
  rw [e1] at e2
  have e3 := Next_f (ms := goR rs (a % 36525) l l.length) (gs := []) U.fm (by have := go_few (rs := rs) (due := a % 36525) U.fr.len U.fr.m; omega) (by simp)
  rw [next_go U.m U.r] at e3
  have hV := go_moves U.m U.r rs (a % 36525)
  have hK := market_kept U.m hV (go_dist U.m U.r rs (a % 36525) [])
  have e4 := Valid26_f (few_kept (ms := goR rs (a % 36525) l l.length) (gs := []) U.fm)
  rw [decide_eq_true hK] at e4
  simp only [decide_eq_true U, if_true, on_f ha.1 ha.2, Option.bind_some, e2, e3, e4, kept_nil_len, bne_self_eq_false]
  refine Ev.step ?_
  simp only [cohousinglaw26_ChainHomes.j0, Bool.false_eq_true, if_false]
  have key : ∀ i, i ≤ pa.length → Ev (fun k => cohousinglaw26_ChainHomes.l0 k true (i : Int) fl pa fl (kept (goR rs (a % 36525) l l.length) [] pa pa.length)) true := by
   refine loopUp pa.length _ ?_ ?_
   ·have h1 : ¬ (((pa.length : Nat) : Int) < (pa.length : Int)) := by omega
    refine Ev.step ?_
    simp only [cohousinglaw26_ChainHomes.l0, h1, if_false]
    exact Ev.pure _
   ·intro i hi ih
    have h1 : (i : Int) < (pa.length : Int) := by omega
    have h2 : (0 : Int) ≤ (i : Int) := by omega
    have h3 : (i : Int) < ((kept (goR rs (a % 36525) l l.length) [] pa pa.length).length : Int) := by rw [kept_nil_len]; exact h1
    have hp := U.fm.p
    have hw := wrap_nat (show i ≤ 140737488355328 by omega)
    refine Ev.step ?_
    by_cases c : (rd_T46 pa (i : Int)).f1 = 0
    ·simp only [cohousinglaw26_ChainHomes.l0, h1, h2, h3, kept_nil_at _ pa hi, newP, pid, c, if_true, hw]
     exact ih
    ·have c2 : ¬ (flA (goR rs (a % 36525) l l.length) pa i = 0) := flA_ne U.m hV c
     simp only [cohousinglaw26_ChainHomes.l0, h1, h2, h3, kept_nil_at _ pa hi, newP, pid, c, c2, if_true, if_false, hw]
     exact ih
  exact key 0 (by omega)
 ·simp only [decide_eq_false U, Bool.false_eq_true, if_false]
  exact Ev.pure _
end Go.Proofs.Ytocbiggglnpeoaa.P
end
