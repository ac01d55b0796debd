/- Part 8 of the base that the seat's proofs share: words, walks and plain laws. -/
import Derived.Test.YtocbiggglnpeoaaCMg
set_option linter.unusedVariables false
set_option linter.unusedSimpArgs false
section
namespace Go.Proofs.Ytocbiggglnpeoaa.M
open Go.RowKit Go.Proofs.YtocbiggglnpeoaaW.PrintWords Go.Proofs.YtocbiggglnpeoaaW.PrintLast Go.Proofs.YtocbiggglnpeoaaW.PrintMore
attribute [local go_sem] max2_int min2_int max_two min_two max_three min_three max_four min_four
set_option linter.unusedVariables false
set_option linter.unusedSimpArgs false
mutual
def cohousingref26_shape.l0 : Nat → Int → Int → Bool → List (S51) → Option (Bool)
 | 0, _, _, _, _ => none
 | k + 1, x5, x7, x235000, x235001 => if x7 < x5 then (if 0 ≤ x7 then (if x7 < (x235001.length : Int) then (if 0 ≤ (wrap64 (x7 - 1)) then (if (wrap64 (x7 - 1)) < (x235001.length : Int) then (if ((rd_T51 x235001 x7).f2) = ((rd_T51 x235001 (wrap64 (x7 - 1))).f1) then (cohousingref26_shape.l0 k x5 (wrap64 (x7 + 1)) x235000 x235001) else (some false)) else (none)) else (none)) else (none)) else (none)) else (some true)
def cohousingref26_shape.l1 : Nat → Int → Int → Bool → List (S51) → Option (Bool)
 | 0, _, _, _, _ => none
 | k + 1, x5, x8, x235000, x235001 => if x8 < x5 then (if 0 ≤ x8 then (if x8 < (x235001.length : Int) then (if ((rd_T51 x235001 x8).f1) = 0 then (some false) else (if x5 = 0 then (none) else (if 0 ≤ (Int.tmod (wrap64 (x8 + 1)) x5) then (if (Int.tmod (wrap64 (x8 + 1)) x5) < (x235001.length : Int) then (if ((rd_T51 x235001 x8).f2) = ((rd_T51 x235001 (Int.tmod (wrap64 (x8 + 1)) x5)).f1) then (cohousingref26_shape.l1 k x5 (wrap64 (x8 + 1)) x235000 x235001) else (some false)) else (none)) else (none)))) else (none)) else (none)) else (some true)
end
def cohousingref26_shape.f (k : Nat) (l0_0 : List (S84)) (l0_1 : List (S46)) (a1_0 : Bool) (l1_1 : List (S51)) : Option (Bool) := if (l1_1.length : Int) = 0 then (some false) else (if a1_0 = true then (if 0 < (l1_1.length : Int) then ((cohousingref26_Free.f k l0_0 l0_1 ((rd_T51 l1_1 0).f2)).bind fun t236 => (if t236 = true then (cohousingref26_shape.l0 k (l1_1.length : Int) 1 a1_0 l1_1) else (some false))) else (none)) else (cohousingref26_shape.l1 k (l1_1.length : Int) 0 a1_0 l1_1))
def cohousingref26_shape.T5 : Bool × List (List Nat × List Nat) := (true, [([], []), ([], []), ([1], [1]), ([2], [2]), ([3], [3]), ([4], [4]), ([0, 5], [0, 5]), ([6, 6, 0, 1, 2, 3, 4, 5, 6], [6])])
def cohousingref26_shape.B5 : List Nat := [0, 0, 2, 6, 14, 30, 63, 127]
theorem cohousingref26_shape.tab5 : rtab .any (opsOf Try.f47 5) = cohousingref26_shape.T5 := by kernel_rfl
theorem cohousingref26_shape.bits5 : waitsOk cohousingref26_shape.T5.2 cohousingref26_shape.B5 = true := by kernel_rfl
def cohousingref26_shape.T11 : Bool × List (List Nat × List Nat) := (true, [([], []), ([0], [0]), ([], []), ([1, 2], [1, 2]), ([3], [3]), ([4], [4]), ([], []), ([6], [6]), ([], []), ([8], [8]), ([7, 9], [7, 9]), ([10], [10]), ([11], [11]), ([5, 12], [5, 12])])
def cohousingref26_shape.B11 : List Nat := [0, 1, 0, 7, 15, 31, 0, 64, 0, 256, 960, 1984, 4032, 8191]
theorem cohousingref26_shape.tab11 : rtab .any (opsOf Try.f47 11) = cohousingref26_shape.T11 := by kernel_rfl
theorem cohousingref26_shape.bits11 : waitsOk cohousingref26_shape.T11.2 cohousingref26_shape.B11 = true := by kernel_rfl
def cohousingref26_shape.T17 : Bool × List (List Nat × List Nat) := (true, [([], []), ([0], [0]), ([], []), ([1, 2], [1, 2]), ([3], [3]), ([4], [4]), ([5], [5]), ([6], [6]), ([7], [7]), ([8, 7], [7, 8]), ([7], [7]), ([9, 10, 7], [7, 9, 10]), ([11, 7], [7, 11]), ([12, 7], [7, 12]), ([7], [7]), ([14, 7], [7, 14]), ([7], [7]), ([16, 7], [7, 16]), ([7], [7]), ([17, 18, 7], [7, 17, 18]), ([15, 19, 7], [7, 15, 19]), ([20, 7], [7, 20]), ([21, 7], [7, 21]), ([13, 22, 7], [7, 13, 22]), ([7, 23], [7, 23])])
def cohousingref26_shape.B17 : List Nat := [0, 1, 0, 7, 15, 31, 63, 127, 255, 511, 255, 2047, 4095, 8191, 255, 16639, 255, 65791, 255, 459007, 1032447, 2081023, 4178175, 8388607, 16777215]
theorem cohousingref26_shape.tab17 : rtab .any (opsOf Try.f47 17) = cohousingref26_shape.T17 := by kernel_rfl
theorem cohousingref26_shape.bits17 : waitsOk cohousingref26_shape.T17.2 cohousingref26_shape.B17 = true := by kernel_rfl
set_option maxHeartbeats 8000000 in
set_option maxRecDepth 100000 in
theorem cohousingref26_shape.calls (k : Nat) (A0_0 : Option Addr) (c0_0 : Nat) (l0_0 : List (S84)) (A0_1 : Option Addr) (c0_1 : Nat) (l0_1 : List (S46)) (a1_0 : Bool) (A1_1 : Option Addr) (c1_1 : Nat) (l1_1 : List (S51)) (r : Bool) (w : World) (hr0_0 : Kd.C k84 w A0_0 l0_0.length l0_0) (hc0_0 : l0_0.length ≤ c0_0) (hr0_1 : Kd.C k46 w A0_1 l0_1.length l0_1) (hc0_1 : l0_1.length ≤ c0_1) (hr1_1 : Kd.C k51 w A1_1 l1_1.length l1_1) (hc1_1 : l1_1.length ≤ c1_1) (h : cohousingref26_shape.f k l0_0 l0_1 a1_0 l1_1 = some r) :
  Calls Try.prog 47 #[.agg #[.slice A0_0 l0_0.length c0_0, .slice A0_1 l0_1.length c0_1], .agg #[.bool a1_0, .slice A1_1 l1_1.length c1_1]] w fun e w' => e = .returned (.bool r) ∧ Below w.heap.size w w' := by
 have hu25 := Try.underlying25
 have hu49 := Try.underlying49
 have HR0_0 := mk_ hr0_0
 have HC0_0 := mk_ hc0_0
 clear hr0_0 hc0_0
 have HR0_1 := mk_ hr0_1
 have HC0_1 := mk_ hc0_1
 clear hr0_1 hc0_1
 have HR1_1 := mk_ hr1_1
 have HC1_1 := mk_ hc1_1
 clear hr1_1 hc1_1
 have HB := mk_ (Below.refl w.heap.size w)
 have H : (if (l1_1.length : Int) = 0 then (some false) else (if a1_0 = true then (if 0 < (l1_1.length : Int) then ((cohousingref26_Free.f k l0_0 l0_1 ((rd_T51 l1_1 0).f2)).bind fun t236 => (if t236 = true then (cohousingref26_shape.l0 k (l1_1.length : Int) 1 a1_0 l1_1) else (some false))) else (none)) else (cohousingref26_shape.l1 k (l1_1.length : Int) 0 a1_0 l1_1))) = some r := h
 clear h
 by_cases c3 : (l1_1.length : Int) = 0
 ·rw [if_pos c3] at H
  have c3b0 : ((l1_1.length : Int) == 0) = true := beq_iff_eq.mpr c3
  have c3b1 : ((l1_1.length : Int) != 0) = false := bne_eq_false_iff_eq.mpr c3
  clear c3
  obtain rfl := Option.some.inj H
  go_enter Try.func47, Try.ntmps47
  go_wp2_with (first | ((with_reducible refine gate_dst (N := 2) rfl ?_); refine box_event ?hg (N := 2) ?hd (cs := #[.slice A0_0 l0_0.length c0_0, .slice A0_1 l0_1.length c0_1]) (t := 25) ?hr ?_; (case hd => rfl); (case hg => rfl); (case hr => first | (go_simp; done) | (go_simp; rfl)); intro gb233 hg w4 hbox hb; have n0_ := mk_ (below_step (bb_ HB) hb); have n1_ := mk_ (hbox); have n2_ := mk_ (bz_ hg (bb_ HB)); have n3_ := mk_ (bz_ hg (bb_ HB)); clear HB; revert n0_ n1_ n2_ n3_; intro HB BK233 GW233 GE233; clear hb hbox hg) | ((with_reducible refine gate_dst (N := 3) rfl ?_); refine box_event ?hg (N := 3) ?hd (cs := #[.bool a1_0, .slice A1_1 l1_1.length c1_1]) (t := 49) ?hr ?_; (case hd => rfl); (case hg => rfl); (case hr => first | (go_simp; done) | (go_simp; rfl)); intro gb234 hg w5 hbox hb; have n0_ := mk_ (blk_below (kk_ BK233) hb); have n1_ := mk_ (below_step (bs_ HB GE233.out) hb); have n2_ := mk_ (hbox); have n3_ := mk_ (bz_ hg (bs_ HB GE233.out)); have n4_ := mk_ (bz_ hg (bs_ HB GE233.out)); have n5_ := mk_ (bl_ hg (kk_ BK233)); have n6_ := mk_ (bg_ hg (kk_ BK233)); clear BK233 HB; revert n0_ n1_ n2_ n3_ n4_ n5_ n6_; intro BK233 HB BK234 GW234 GE234 NB233_234 NB234_233; clear hb hbox hg; have hnb6 := NB234_233.out; have hnc6 := NB233_234.out; have hcz7_0 := bc0_ BK234.out; have hcz7_1 := bc1_ BK234.out; have hfz7_0 := blk_frozen BK234.out 0; have hfz7_1 := blk_frozen BK234.out 1))
  go_ret
  exact ⟨ew_, bs2_ HB GE233 GE234⟩
 rw [if_neg c3] at H
 have c3b0 : ((l1_1.length : Int) == 0) = false := beq_eq_false_iff_ne.mpr c3
 have c3b1 : ((l1_1.length : Int) != 0) = true := bne_iff_ne.mpr c3
 have c3b2 : ¬ (l1_1 = []) := fun h_ => c3 (by rw [h_]; rfl)
 by_cases c8 : a1_0 = true
 rotate_left
 ·replace c8 := Bool.eq_false_iff.mpr c8
  subst c8
  have H1 : (cohousingref26_shape.l1 k (l1_1.length : Int) 0 false l1_1) = some r := by rw [if_neg (show ¬ (false = true) by decide)] at H; exact H
  clear H
  have H := H1
  clear H1
  have H' := mk_ H
  clear H
  go_enter Try.func47, Try.ntmps47
  go_wp2_with (first | ((with_reducible refine gate_dst (N := 2) rfl ?_); refine box_event ?hg (N := 2) ?hd (cs := #[.slice A0_0 l0_0.length c0_0, .slice A0_1 l0_1.length c0_1]) (t := 25) ?hr ?_; (case hd => rfl); (case hg => rfl); (case hr => first | (go_simp; done) | (go_simp; rfl)); intro gb233 hg w33 hbox hb; have n0_ := mk_ (below_step (bb_ HB) hb); have n1_ := mk_ (hbox); have n2_ := mk_ (bz_ hg (bb_ HB)); have n3_ := mk_ (bz_ hg (bb_ HB)); clear HB; revert n0_ n1_ n2_ n3_; intro HB BK233 GW233 GE233; clear hb hbox hg) | ((with_reducible refine gate_dst (N := 3) rfl ?_); refine box_event ?hg (N := 3) ?hd (cs := #[.bool false, .slice A1_1 l1_1.length c1_1]) (t := 49) ?hr ?_; (case hd => rfl); (case hg => rfl); (case hr => first | (go_simp; done) | (go_simp; rfl)); intro gb234 hg w34 hbox hb; have n0_ := mk_ (blk_below (kk_ BK233) hb); have n1_ := mk_ (below_step (bs_ HB GE233.out) hb); have n2_ := mk_ (hbox); have n3_ := mk_ (bz_ hg (bs_ HB GE233.out)); have n4_ := mk_ (bz_ hg (bs_ HB GE233.out)); have n5_ := mk_ (bl_ hg (kk_ BK233)); have n6_ := mk_ (bg_ hg (kk_ BK233)); clear BK233 HB; revert n0_ n1_ n2_ n3_ n4_ n5_ n6_; intro BK233 HB BK234 GW234 GE234 NB233_234 NB234_233; clear hb hbox hg; have hnb35 := NB234_233.out; have hnc35 := NB233_234.out; have hcz36_0 := bc0_ BK234.out; have hcz36_1 := bc1_ BK234.out; have hfz36_0 := blk_frozen BK234.out 0; have hfz36_1 := blk_frozen BK234.out 1))
  go_loopg [8] k (fun kq v8 w' => ∃ (x8_1 : Int), v8 = .int .i64 x8_1 ∧ Aside0 (cohousingref26_shape.l1 kq (l1_1.length : Int) x8_1 false l1_1 = some r) ∧ Aside0 (kq ≤ k) ∧ Aside0 (w'.heap[gb233]? = some (.cells #[(.slice A0_0 l0_0.length c0_0), (.slice A0_1 l0_1.length c0_1)] 25 (0, 0))) ∧ Aside0 (w'.heap[gb234]? = some (.cells #[.bool false, (.slice A1_1 l1_1.length c1_1)] 49 (0, 0))) ∧ Aside0 (Below w.heap.size w w'))
  case atStart => exact ⟨(0), sd_, H', ⟨Nat.le_refl _⟩, ⟨kk_ BK233⟩, ⟨kk_ BK234⟩, ⟨bs2_ HB GE233 GE234⟩⟩
  case round =>
   clear H'
   try clear c1; try clear c2; try clear p2; try clear q2; try clear hx2; try clear qi2; try clear c3; try clear c3b0; try clear c3b1; try clear c3b2; try clear c4; try clear c5; try clear c6; try clear p6; try clear c8; try clear c9; try clear c9b0; try clear c9b1; try clear c11; try clear c14; try clear c18; try clear c18b0; try clear c19; try clear c19b0; try clear c20; try clear c20b0; try clear c22; try clear c22b0; try clear c23; try clear c23b0; try clear p23; try clear q23; try clear hx23; try clear qi23; try clear c24; try clear c24b0; try clear c24b1; try clear c29; try clear c35; try clear hcz15_0; try clear hcz15_1; try clear hcz30_0; try clear hcz30_1; try clear hcz36_0; try clear hcz36_1; try clear hcz7_0; try clear hcz7_1; try clear hfz15_0; try clear hfz15_1; try clear hfz30_0; try clear hfz30_1; try clear hfz36_0; try clear hfz36_1; try clear hfz7_0; try clear hfz7_1; try clear hx235_0; try clear hx235_1; try clear hx235_2; try clear hx237_0; try clear hx237_1; try clear hx237_2; try clear hx238_0; try clear hx238_1; try clear hx238_2; try clear p2; try clear p235; try clear p237; try clear p238; try clear q2; try clear q235; try clear q237; try clear q238
   obtain ⟨x8_1, rfl, HA, HK1, BK233, BK234, HB⟩ := hrel
   cases gk with
   | zero => exact absurd HA.out (by simp [cohousingref26_shape.l1])
   | succ k1 =>
    have H := HA.out
    clear HA
    simp only [cohousingref26_shape.l1] at H
    by_cases c37 : x8_1 < (l1_1.length : Int)
    rotate_left
    ·rw [if_neg c37] at H
     have c37b0 : decide (x8_1 < (l1_1.length : Int)) = false := decide_eq_false c37
     clear c37
     obtain rfl := Option.some.inj H
     go_wp2
     go_ret
     exact ⟨ew_, bs2_ HB GE233 GE234⟩
    rw [if_pos c37] at H
    have c37b0 : decide (x8_1 < (l1_1.length : Int)) = true := decide_eq_true c37
    clear c37
    by_cases c38 : 0 ≤ x8_1
    rotate_left
    ·rw [if_neg c38] at H
     exact absurd H (by simp)
    rw [if_pos c38] at H
    have c38b0 : decide (0 ≤ x8_1) = true := decide_eq_true c38
    clear c38
    by_cases c39 : x8_1 < (l1_1.length : Int)
    rotate_left
    ·rw [if_neg c39] at H
     exact absurd H (by simp)
    rw [if_pos c39] at H
    have c39b0 : decide (x8_1 < (l1_1.length : Int)) = true := decide_eq_true c39
    clear c39
    by_cases c40 : ((rd_T51 l1_1 x8_1).f1) = 0
    ·rw [if_pos c40] at H
     have c40b0 : (((rd_T51 l1_1 x8_1).f1) == 0) = true := beq_iff_eq.mpr c40
     have c40b1 : (((rd_T51 l1_1 x8_1).f1) != 0) = false := bne_eq_false_iff_eq.mpr c40
     clear c40
     obtain rfl := Option.some.inj H
     try go_wp2
     have n0_ := mk_ (blk_drew BK233.out)
     have n1_ := mk_ (blk_drew BK234.out)
     have n2_ := mk_ (below_drew1 HB.out)
     clear BK233
     clear BK234
     clear HB
     have BK233 := n0_
     have BK234 := n1_
     have HB := n2_
     clear n0_ n1_ n2_
     have p239 : 0 ≤ (x8_1 : Int) := od_
     have q239 : x8_1 < (l1_1.length : Int) := od_
     obtain ⟨ad239, e239, hx239_0, hx239_1, hx239_2⟩ := at_T51 HR1_1.out x8_1 p239 q239
     have hw239_2 := hx239_2
     have hw239_1 := hx239_1
     have hw239_0 := hx239_0
     cases e239
     replace hx239_0 := cb_ HB hx239_0
     replace hx239_1 := cb_ HB hx239_1
     replace hx239_2 := cb_ HB hx239_2
     replace p239 := eq_true p239
     replace q239 := eq_true q239
     refine start_ (n := 25) (S := fun w' => w'.cell? ⟨gb234, 0, none⟩ = some (.bool false) ∧ w'.cell? ⟨gb234, 1, none⟩ = some (.slice (some ad239) l1_1.length c1_1) ∧ w'.cell? (ad239.add ((x8_1).toNat * 3)) = some (.int .i64 ((rd_T51 l1_1 x8_1).f0)) ∧ w'.cell? ⟨(ad239.add ((x8_1).toNat * 3)).block, (ad239.add ((x8_1).toNat * 3)).off + 1, none⟩ = some (.int .i64 ((rd_T51 l1_1 x8_1).f1)) ∧ w'.cell? ⟨(ad239.add ((x8_1).toNat * 3)).block, (ad239.add ((x8_1).toNat * 3)).off + 2, none⟩ = some (.int .i64 ((rd_T51 l1_1 x8_1).f2))) (ds := []) #[n_, n_, n_, n_, n_, n_, n_, n_, n_, n_, n_, n_, n_, n_, n_, n_, n_, n_, n_, n_, n_, n_, n_, n_, n_] (by kernel_rfl) rfl rfl ⟨(blk_cell BK234.out 0).trans rfl, (blk_cell BK234.out 1).trans rfl, (cb_ HB hw239_0), (cb_ HB hw239_1), (cb_ HB hw239_2)⟩ (fun hHeld => ?_); refine with_tabW cohousingref26_shape.tab17 cohousingref26_shape.bits17 (fun HT_ HW_ => ?_)
     generalize wr.drew = w41 at BK233 BK234 HB hx239_0 hx239_1 hx239_2 hHeld ⊢
     refine pu_ 0 49 (w_ 25 1) rfl HT_ ?_
     refine pu_ 2 51 (w_ 25 5) rfl HT_ ?_
     refine ta_ 1 50 (w_ 25 7) rfl HT_ HW_ hHeld (by rintro w' ⟨s0, s1, s2, s3, s4⟩; go_simp; with_reducible rfl) ?_
     refine pu_ 3 52 (w_ 25 15) rfl HT_ ?_
     refine pu_ 4 53 (w_ 25 31) rfl HT_ ?_
     refine ta_ 5 54 (w_ 25 63) rfl HT_ HW_ hHeld (by rintro w' ⟨s0, s1, s2, s3, s4⟩; go_simp; with_reducible rfl) ?_
     refine pu_ 6 55 (w_ 25 127) rfl HT_ ?_
     refine pu_ 7 56 (w_ 25 255) rfl HT_ ?_
     refine pn_ 8 57 (w_ 25 511) rfl HT_ ?_
     refine pn_ 9 58 (w_ 25 1023) rfl HT_ ?_
     refine pn_ 10 59 (w_ 25 2047) rfl HT_ ?_
     refine pn_ 11 60 (w_ 25 4095) rfl HT_ ?_
     refine pn_ 12 61 (w_ 25 8191) rfl HT_ ?_
     refine pn_ 13 62 (w_ 25 16383) rfl HT_ ?_
     refine pn_ 14 63 (w_ 25 32767) rfl HT_ ?_
     refine pn_ 15 64 (w_ 25 65535) rfl HT_ ?_
     refine pn_ 16 65 (w_ 25 131071) rfl HT_ ?_
     refine pn_ 17 66 (w_ 25 262143) rfl HT_ ?_
     refine pn_ 18 67 (w_ 25 524287) rfl HT_ ?_
     refine pn_ 19 68 (w_ 25 1048575) rfl HT_ ?_
     refine pn_ 20 69 (w_ 25 2097151) rfl HT_ ?_
     refine pn_ 21 70 (w_ 25 4194303) rfl HT_ ?_
     refine pn_ 22 71 (w_ 25 8388607) rfl HT_ ?_
     refine pn_ 23 72 (w_ 25 16777215) rfl HT_ ?_
     refine pu_ 24 73 (w_ 25 33554431) rfl HT_ ?_
     refine done_ (done_of HT_.out (by kernel_rfl)) ?_
     try go_wp2
     go_ret
     exact ⟨ew_, bs2_ HB GE233 GE234⟩
    rw [if_neg c40] at H
    have c40b0 : (((rd_T51 l1_1 x8_1).f1) == 0) = false := beq_eq_false_iff_ne.mpr c40
    have c40b1 : (((rd_T51 l1_1 x8_1).f1) != 0) = true := bne_iff_ne.mpr c40
    by_cases c42 : (l1_1.length : Int) = 0
    ·rw [if_pos c42] at H
     exact absurd H (by simp)
    rw [if_neg c42] at H
    have c42b0 : ((l1_1.length : Int) == 0) = false := beq_eq_false_iff_ne.mpr c42
    have c42b1 : ((l1_1.length : Int) != 0) = true := bne_iff_ne.mpr c42
    have c42b2 : ¬ (l1_1 = []) := fun h_ => c42 (by rw [h_]; rfl)
    obtain ⟨ji43, hji43⟩ : ∃ j_ : Int, (Int.tmod (wrap64 (x8_1 + 1)) (l1_1.length : Int)) = j_ := ⟨_, rfl⟩
    replace H : (if 0 ≤ (ji43) then (if (ji43) < (l1_1.length : Int) then (if ((rd_T51 l1_1 x8_1).f2) = ((rd_T51 l1_1 (ji43)).f1) then (cohousingref26_shape.l1 k1 (l1_1.length : Int) (wrap64 (x8_1 + 1)) false l1_1) else (some false)) else (none)) else (none)) = some r := by first | (rw [hji43] at H; exact H) | (simp only [hji43] at H ⊢; exact H)
    by_cases c44 : 0 ≤ (ji43)
    rotate_left
    ·rw [if_neg c44] at H
     exact absurd H (by simp)
    rw [if_pos c44] at H
    have c44b0 : decide (0 ≤ (ji43)) = true := decide_eq_true c44
    clear c44
    by_cases c45 : (ji43) < (l1_1.length : Int)
    rotate_left
    ·rw [if_neg c45] at H
     exact absurd H (by simp)
    rw [if_pos c45] at H
    have c45b0 : decide ((ji43) < (l1_1.length : Int)) = true := decide_eq_true c45
    clear c45
    by_cases c46 : ((rd_T51 l1_1 x8_1).f2) = ((rd_T51 l1_1 (ji43)).f1)
    rotate_left
    ·rw [if_neg c46] at H
     have c46b0 : (((rd_T51 l1_1 x8_1).f2) == ((rd_T51 l1_1 (ji43)).f1)) = false := beq_eq_false_iff_ne.mpr c46
     have c46b1 : (((rd_T51 l1_1 x8_1).f2) != ((rd_T51 l1_1 (ji43)).f1)) = true := bne_iff_ne.mpr c46
     obtain rfl := Option.some.inj H
     try go_wp2
     have n0_ := mk_ (blk_drew BK233.out)
     have n1_ := mk_ (blk_drew BK234.out)
     have n2_ := mk_ (below_drew1 HB.out)
     clear BK233
     clear BK234
     clear HB
     have BK233 := n0_
     have BK234 := n1_
     have HB := n2_
     clear n0_ n1_ n2_
     have p239 : 0 ≤ (x8_1 : Int) := od_
     have q239 : x8_1 < (l1_1.length : Int) := od_
     obtain ⟨ad239, e239, hx239_0, hx239_1, hx239_2⟩ := at_T51 HR1_1.out x8_1 p239 q239
     have hw239_2 := hx239_2
     have hw239_1 := hx239_1
     have hw239_0 := hx239_0
     cases e239
     replace hx239_0 := cb_ HB hx239_0
     replace hx239_1 := cb_ HB hx239_1
     replace hx239_2 := cb_ HB hx239_2
     replace p239 := eq_true p239
     replace q239 := eq_true q239
     have p240 : 0 ≤ (x8_1 : Int) := od_
     have q240 : x8_1 < (l1_1.length : Int) := od_
     obtain ⟨ad240, e240, hx240_0, hx240_1, hx240_2⟩ := at_T51 HR1_1.out x8_1 p240 q240
     have hw240_2 := hx240_2
     have hw240_1 := hx240_1
     have hw240_0 := hx240_0
     obtain rfl : ad239 = ad240 := (by injection e240)
     replace hx240_0 := cb_ HB hx240_0
     replace hx240_1 := cb_ HB hx240_1
     replace hx240_2 := cb_ HB hx240_2
     replace p240 := eq_true p240
     replace q240 := eq_true q240
     have p241 : 0 ≤ ((ji43) : Int) := od_
     have q241 : (ji43) < (l1_1.length : Int) := od_
     obtain ⟨ad241, e241, hx241_0, hx241_1, hx241_2⟩ := at_T51 HR1_1.out (ji43) p241 q241
     have hw241_2 := hx241_2
     have hw241_1 := hx241_1
     have hw241_0 := hx241_0
     obtain rfl : ad239 = ad241 := (by injection e241)
     replace hx241_0 := cb_ HB hx241_0
     replace hx241_1 := cb_ HB hx241_1
     replace hx241_2 := cb_ HB hx241_2
     replace p241 := eq_true p241
     replace q241 := eq_true q241
     refine start_ (n := 25) (S := fun w' => w'.cell? ⟨gb234, 0, none⟩ = some (.bool false) ∧ w'.cell? ⟨gb234, 1, none⟩ = some (.slice (some ad239) l1_1.length c1_1) ∧ w'.cell? (ad239.add ((x8_1).toNat * 3)) = some (.int .i64 ((rd_T51 l1_1 x8_1).f0)) ∧ w'.cell? ⟨(ad239.add ((x8_1).toNat * 3)).block, (ad239.add ((x8_1).toNat * 3)).off + 1, none⟩ = some (.int .i64 ((rd_T51 l1_1 x8_1).f1)) ∧ w'.cell? ⟨(ad239.add ((x8_1).toNat * 3)).block, (ad239.add ((x8_1).toNat * 3)).off + 2, none⟩ = some (.int .i64 ((rd_T51 l1_1 x8_1).f2)) ∧ w'.cell? (ad239.add ((x8_1).toNat * 3)) = some (.int .i64 ((rd_T51 l1_1 x8_1).f0)) ∧ w'.cell? ⟨(ad239.add ((x8_1).toNat * 3)).block, (ad239.add ((x8_1).toNat * 3)).off + 1, none⟩ = some (.int .i64 ((rd_T51 l1_1 x8_1).f1)) ∧ w'.cell? ⟨(ad239.add ((x8_1).toNat * 3)).block, (ad239.add ((x8_1).toNat * 3)).off + 2, none⟩ = some (.int .i64 ((rd_T51 l1_1 x8_1).f2)) ∧ w'.cell? (ad239.add (((ji43)).toNat * 3)) = some (.int .i64 ((rd_T51 l1_1 (ji43)).f0)) ∧ w'.cell? ⟨(ad239.add (((ji43)).toNat * 3)).block, (ad239.add (((ji43)).toNat * 3)).off + 1, none⟩ = some (.int .i64 ((rd_T51 l1_1 (ji43)).f1)) ∧ w'.cell? ⟨(ad239.add (((ji43)).toNat * 3)).block, (ad239.add (((ji43)).toNat * 3)).off + 2, none⟩ = some (.int .i64 ((rd_T51 l1_1 (ji43)).f2))) (ds := []) #[n_, n_, n_, n_, n_, n_, n_, n_, n_, n_, n_, n_, n_, n_, n_, n_, n_, n_, n_, n_, n_, n_, n_, n_, n_] (by kernel_rfl) rfl rfl ⟨(blk_cell BK234.out 0).trans rfl, (blk_cell BK234.out 1).trans rfl, (cb_ HB hw239_0), (cb_ HB hw239_1), (cb_ HB hw239_2), (cb_ HB hw240_0), (cb_ HB hw240_1), (cb_ HB hw240_2), (cb_ HB hw241_0), (cb_ HB hw241_1), (cb_ HB hw241_2)⟩ (fun hHeld => ?_); refine with_tabW cohousingref26_shape.tab17 cohousingref26_shape.bits17 (fun HT_ HW_ => ?_)
     generalize wr.drew = w48 at BK233 BK234 HB hx239_0 hx239_1 hx239_2 hx240_0 hx240_1 hx240_2 hx241_0 hx241_1 hx241_2 hHeld ⊢
     refine pu_ 0 49 (w_ 25 1) rfl HT_ ?_
     refine pu_ 2 51 (w_ 25 5) rfl HT_ ?_
     refine ta_ 1 50 (w_ 25 7) rfl HT_ HW_ hHeld (by rintro w' ⟨s0, s1, s2, s3, s4, s5, s6, s7, s8, s9, s10⟩; go_simp; with_reducible rfl) ?_
     refine pu_ 3 52 (w_ 25 15) rfl HT_ ?_
     refine pu_ 4 53 (w_ 25 31) rfl HT_ ?_
     refine ta_ 5 54 (w_ 25 63) rfl HT_ HW_ hHeld (by rintro w' ⟨s0, s1, s2, s3, s4, s5, s6, s7, s8, s9, s10⟩; go_simp; with_reducible rfl) ?_
     refine pu_ 6 55 (w_ 25 127) rfl HT_ ?_
     refine pu_ 7 56 (w_ 25 255) rfl HT_ ?_
     refine pu_ 8 57 (w_ 25 511) rfl HT_ ?_
     refine pu_ 10 59 (w_ 25 1535) rfl HT_ ?_
     refine pu_ 14 63 (w_ 25 17919) rfl HT_ ?_
     refine pu_ 16 65 (w_ 25 83455) rfl HT_ ?_
     refine pu_ 17 66 (w_ 25 214527) rfl HT_ ?_
     refine pu_ 18 67 (w_ 25 476671) rfl HT_ ?_
     refine pu_ 19 68 (w_ 25 1000959) rfl HT_ ?_
     refine ta_ 9 58 (w_ 25 1001471) rfl HT_ HW_ hHeld (by rintro w' ⟨s0, s1, s2, s3, s4, s5, s6, s7, s8, s9, s10⟩; go_simp; with_reducible rfl) ?_
     refine pu_ 11 60 (w_ 25 1003519) rfl HT_ ?_
     refine pu_ 12 61 (w_ 25 1007615) rfl HT_ ?_
     refine ta_ 13 62 (w_ 25 1015807) rfl HT_ HW_ hHeld (by rintro w' ⟨s0, s1, s2, s3, s4, s5, s6, s7, s8, s9, s10⟩; go_simp; with_reducible rfl) ?_
     refine ta_ 15 64 (w_ 25 1048575) rfl HT_ HW_ hHeld (by rintro w' ⟨s0, s1, s2, s3, s4, s5, s6, s7, s8, s9, s10⟩; go_simp; with_reducible rfl) ?_
     refine pu_ 20 69 (w_ 25 2097151) rfl HT_ ?_
     refine pu_ 21 70 (w_ 25 4194303) rfl HT_ ?_
     refine ta_ 22 71 (w_ 25 8388607) rfl HT_ HW_ hHeld (by rintro w' ⟨s0, s1, s2, s3, s4, s5, s6, s7, s8, s9, s10⟩; go_simp; with_reducible rfl) ?_
     refine pu_ 23 72 (w_ 25 16777215) rfl HT_ ?_
     refine pu_ 24 73 (w_ 25 33554431) rfl HT_ ?_
     refine done_ (done_of HT_.out (by kernel_rfl)) ?_
     try go_wp2
     go_ret
     exact ⟨by first | rfl | (simp [errW_none, errW_some] <;> rfl) | (simp only [← hji43]; first | rfl | (simp [errW_none, errW_some] <;> rfl)) | (simp [*, errW_none, errW_some] <;> rfl), bs2_ HB GE233 GE234⟩
    rw [if_pos c46] at H
    have c46b0 : (((rd_T51 l1_1 x8_1).f2) == ((rd_T51 l1_1 (ji43)).f1)) = true := beq_iff_eq.mpr c46
    have c46b1 : (((rd_T51 l1_1 x8_1).f2) != ((rd_T51 l1_1 (ji43)).f1)) = false := bne_eq_false_iff_eq.mpr c46
    clear c46
    have H' := mk_ H
    clear H
    try go_wp2
    have n0_ := mk_ (blk_drew BK233.out)
    have n1_ := mk_ (blk_drew BK234.out)
    have n2_ := mk_ (below_drew1 HB.out)
    clear BK233
    clear BK234
    clear HB
    have BK233 := n0_
    have BK234 := n1_
    have HB := n2_
    clear n0_ n1_ n2_
    have p239 : 0 ≤ (x8_1 : Int) := od_
    have q239 : x8_1 < (l1_1.length : Int) := od_
    obtain ⟨ad239, e239, hx239_0, hx239_1, hx239_2⟩ := at_T51 HR1_1.out x8_1 p239 q239
    have hw239_2 := hx239_2
    have hw239_1 := hx239_1
    have hw239_0 := hx239_0
    cases e239
    replace hx239_0 := cb_ HB hx239_0
    replace hx239_1 := cb_ HB hx239_1
    replace hx239_2 := cb_ HB hx239_2
    replace p239 := eq_true p239
    replace q239 := eq_true q239
    have p240 : 0 ≤ (x8_1 : Int) := od_
    have q240 : x8_1 < (l1_1.length : Int) := od_
    obtain ⟨ad240, e240, hx240_0, hx240_1, hx240_2⟩ := at_T51 HR1_1.out x8_1 p240 q240
    have hw240_2 := hx240_2
    have hw240_1 := hx240_1
    have hw240_0 := hx240_0
    obtain rfl : ad239 = ad240 := (by injection e240)
    replace hx240_0 := cb_ HB hx240_0
    replace hx240_1 := cb_ HB hx240_1
    replace hx240_2 := cb_ HB hx240_2
    replace p240 := eq_true p240
    replace q240 := eq_true q240
    have p241 : 0 ≤ ((ji43) : Int) := od_
    have q241 : (ji43) < (l1_1.length : Int) := od_
    obtain ⟨ad241, e241, hx241_0, hx241_1, hx241_2⟩ := at_T51 HR1_1.out (ji43) p241 q241
    have hw241_2 := hx241_2
    have hw241_1 := hx241_1
    have hw241_0 := hx241_0
    obtain rfl : ad239 = ad241 := (by injection e241)
    replace hx241_0 := cb_ HB hx241_0
    replace hx241_1 := cb_ HB hx241_1
    replace hx241_2 := cb_ HB hx241_2
    replace p241 := eq_true p241
    replace q241 := eq_true q241
    refine start_ (n := 25) (S := fun w' => w'.cell? ⟨gb234, 0, none⟩ = some (.bool false) ∧ w'.cell? ⟨gb234, 1, none⟩ = some (.slice (some ad239) l1_1.length c1_1) ∧ w'.cell? (ad239.add ((x8_1).toNat * 3)) = some (.int .i64 ((rd_T51 l1_1 x8_1).f0)) ∧ w'.cell? ⟨(ad239.add ((x8_1).toNat * 3)).block, (ad239.add ((x8_1).toNat * 3)).off + 1, none⟩ = some (.int .i64 ((rd_T51 l1_1 x8_1).f1)) ∧ w'.cell? ⟨(ad239.add ((x8_1).toNat * 3)).block, (ad239.add ((x8_1).toNat * 3)).off + 2, none⟩ = some (.int .i64 ((rd_T51 l1_1 x8_1).f2)) ∧ w'.cell? (ad239.add ((x8_1).toNat * 3)) = some (.int .i64 ((rd_T51 l1_1 x8_1).f0)) ∧ w'.cell? ⟨(ad239.add ((x8_1).toNat * 3)).block, (ad239.add ((x8_1).toNat * 3)).off + 1, none⟩ = some (.int .i64 ((rd_T51 l1_1 x8_1).f1)) ∧ w'.cell? ⟨(ad239.add ((x8_1).toNat * 3)).block, (ad239.add ((x8_1).toNat * 3)).off + 2, none⟩ = some (.int .i64 ((rd_T51 l1_1 x8_1).f2)) ∧ w'.cell? (ad239.add (((ji43)).toNat * 3)) = some (.int .i64 ((rd_T51 l1_1 (ji43)).f0)) ∧ w'.cell? ⟨(ad239.add (((ji43)).toNat * 3)).block, (ad239.add (((ji43)).toNat * 3)).off + 1, none⟩ = some (.int .i64 ((rd_T51 l1_1 (ji43)).f1)) ∧ w'.cell? ⟨(ad239.add (((ji43)).toNat * 3)).block, (ad239.add (((ji43)).toNat * 3)).off + 2, none⟩ = some (.int .i64 ((rd_T51 l1_1 (ji43)).f2))) (ds := []) #[n_, n_, n_, n_, n_, n_, n_, n_, n_, n_, n_, n_, n_, n_, n_, n_, n_, n_, n_, n_, n_, n_, n_, n_, n_] (by kernel_rfl) rfl rfl ⟨(blk_cell BK234.out 0).trans rfl, (blk_cell BK234.out 1).trans rfl, (cb_ HB hw239_0), (cb_ HB hw239_1), (cb_ HB hw239_2), (cb_ HB hw240_0), (cb_ HB hw240_1), (cb_ HB hw240_2), (cb_ HB hw241_0), (cb_ HB hw241_1), (cb_ HB hw241_2)⟩ (fun hHeld => ?_); refine with_tabW cohousingref26_shape.tab17 cohousingref26_shape.bits17 (fun HT_ HW_ => ?_)
    generalize wr.drew = w47 at BK233 BK234 HB hx239_0 hx239_1 hx239_2 hx240_0 hx240_1 hx240_2 hx241_0 hx241_1 hx241_2 hHeld ⊢
    refine pu_ 0 49 (w_ 25 1) rfl HT_ ?_
    refine pu_ 2 51 (w_ 25 5) rfl HT_ ?_
    refine ta_ 1 50 (w_ 25 7) rfl HT_ HW_ hHeld (by rintro w' ⟨s0, s1, s2, s3, s4, s5, s6, s7, s8, s9, s10⟩; go_simp; with_reducible rfl) ?_
    refine pu_ 3 52 (w_ 25 15) rfl HT_ ?_
    refine pu_ 4 53 (w_ 25 31) rfl HT_ ?_
    refine ta_ 5 54 (w_ 25 63) rfl HT_ HW_ hHeld (by rintro w' ⟨s0, s1, s2, s3, s4, s5, s6, s7, s8, s9, s10⟩; go_simp; with_reducible rfl) ?_
    refine pu_ 6 55 (w_ 25 127) rfl HT_ ?_
    refine pu_ 7 56 (w_ 25 255) rfl HT_ ?_
    refine pu_ 8 57 (w_ 25 511) rfl HT_ ?_
    refine pu_ 10 59 (w_ 25 1535) rfl HT_ ?_
    refine pu_ 14 63 (w_ 25 17919) rfl HT_ ?_
    refine pu_ 16 65 (w_ 25 83455) rfl HT_ ?_
    refine pu_ 17 66 (w_ 25 214527) rfl HT_ ?_
    refine pu_ 18 67 (w_ 25 476671) rfl HT_ ?_
    refine pu_ 19 68 (w_ 25 1000959) rfl HT_ ?_
    refine ta_ 9 58 (w_ 25 1001471) rfl HT_ HW_ hHeld (by rintro w' ⟨s0, s1, s2, s3, s4, s5, s6, s7, s8, s9, s10⟩; go_simp; with_reducible rfl) ?_
    refine pu_ 11 60 (w_ 25 1003519) rfl HT_ ?_
    refine pu_ 12 61 (w_ 25 1007615) rfl HT_ ?_
    refine ta_ 13 62 (w_ 25 1015807) rfl HT_ HW_ hHeld (by rintro w' ⟨s0, s1, s2, s3, s4, s5, s6, s7, s8, s9, s10⟩; go_simp; with_reducible rfl) ?_
    refine ta_ 15 64 (w_ 25 1048575) rfl HT_ HW_ hHeld (by rintro w' ⟨s0, s1, s2, s3, s4, s5, s6, s7, s8, s9, s10⟩; go_simp; with_reducible rfl) ?_
    refine pu_ 20 69 (w_ 25 2097151) rfl HT_ ?_
    refine pu_ 21 70 (w_ 25 4194303) rfl HT_ ?_
    refine ta_ 22 71 (w_ 25 8388607) rfl HT_ HW_ hHeld (by rintro w' ⟨s0, s1, s2, s3, s4, s5, s6, s7, s8, s9, s10⟩; go_simp; with_reducible rfl) ?_
    refine pu_ 23 72 (w_ 25 16777215) rfl HT_ ?_
    refine pu_ 24 73 (w_ 25 33554431) rfl HT_ ?_
    refine done_ (done_of HT_.out (by kernel_rfl)) ?_
    try go_wp2
    go_roundg k1
    case measure => have := HK1.out; omega
    case rel => exact ⟨(wrap64 (x8_1 + 1)), sd_, H', ⟨by have := HK1.out; omega⟩, ⟨kk_ BK233⟩, ⟨kk_ BK234⟩, ⟨bs2_ HB GE233 GE234⟩⟩
 subst c8
 have H1 : (if 0 < (l1_1.length : Int) then ((cohousingref26_Free.f k l0_0 l0_1 ((rd_T51 l1_1 0).f2)).bind fun t236 => (if t236 = true then (cohousingref26_shape.l0 k (l1_1.length : Int) 1 true l1_1) else (some false))) else (none)) = some r := by rw [if_pos rfl] at H; exact H
 clear H
 have H := H1
 clear H1
 by_cases c9 : 0 < (l1_1.length : Int)
 rotate_left
 ·rw [if_neg c9] at H
  exact absurd H (by simp)
 rw [if_pos c9] at H
 have c9b0 : decide (0 < (l1_1.length : Int)) = true := decide_eq_true c9
 have c9b1 : decide (0 < l1_1.length) = true := decide_eq_true (by omega)
 clear c9
 replace H := Option.bind_eq_some_iff.mp H
 obtain ⟨t236, A100, H⟩ := H
 replace H : (if t236 = true then (cohousingref26_shape.l0 k (l1_1.length : Int) 1 true l1_1) else (some false)) = some r := H
 have A10 := mk_ A100
 clear A100
 by_cases c11 : t236 = true
 rotate_left
 ·replace c11 := Bool.eq_false_iff.mpr c11
  subst c11
  have H1 : (some false) = some r := by rw [if_neg (show ¬ (false = true) by decide)] at H; exact H
  clear H
  have H := H1
  clear H1
  obtain rfl := Option.some.inj H
  go_enter Try.func47, Try.ntmps47
  try go_wp2_with (first | ((with_reducible refine gate_dst (N := 2) rfl ?_); refine box_event ?hg (N := 2) ?hd (cs := #[.slice A0_0 l0_0.length c0_0, .slice A0_1 l0_1.length c0_1]) (t := 25) ?hr ?_; (case hd => rfl); (case hg => rfl); (case hr => first | (go_simp; done) | (go_simp; rfl)); intro gb233 hg w27 hbox hb; have n0_ := mk_ (below_step (bb_ HB) hb); have n1_ := mk_ (hbox); have n2_ := mk_ (bz_ hg (bb_ HB)); have n3_ := mk_ (bz_ hg (bb_ HB)); clear HB; revert n0_ n1_ n2_ n3_; intro HB BK233 GW233 GE233; clear hb hbox hg) | ((with_reducible refine gate_dst (N := 3) rfl ?_); refine box_event ?hg (N := 3) ?hd (cs := #[.bool true, .slice A1_1 l1_1.length c1_1]) (t := 49) ?hr ?_; (case hd => rfl); (case hg => rfl); (case hr => first | (go_simp; done) | (go_simp; rfl)); intro gb234 hg w28 hbox hb; have n0_ := mk_ (blk_below (kk_ BK233) hb); have n1_ := mk_ (below_step (bs_ HB GE233.out) hb); have n2_ := mk_ (hbox); have n3_ := mk_ (bz_ hg (bs_ HB GE233.out)); have n4_ := mk_ (bz_ hg (bs_ HB GE233.out)); have n5_ := mk_ (bl_ hg (kk_ BK233)); have n6_ := mk_ (bg_ hg (kk_ BK233)); clear BK233 HB; revert n0_ n1_ n2_ n3_ n4_ n5_ n6_; intro BK233 HB BK234 GW234 GE234 NB233_234 NB234_233; clear hb hbox hg; have hnb29 := NB234_233.out; have hnc29 := NB233_234.out; have hcz30_0 := bc0_ BK234.out; have hcz30_1 := bc1_ BK234.out; have hfz30_0 := blk_frozen BK234.out 0; have hfz30_1 := blk_frozen BK234.out 1))
  have n0_ := mk_ (blk_drew BK233.out)
  have n1_ := mk_ (blk_drew BK234.out)
  have n2_ := mk_ (below_drew1 HB.out)
  clear BK233
  clear BK234
  clear HB
  have BK233 := n0_
  have BK234 := n1_
  have HB := n2_
  clear n0_ n1_ n2_
  have p235 : 0 ≤ (0 : Int) := (by omega)
  have q235 : 0 < (l1_1.length : Int) := od_
  obtain ⟨ad235, e235, hx235_0, hx235_1, hx235_2⟩ := at_T51 HR1_1.out 0 p235 q235
  have hw235_2 := hx235_2
  (try rw [show ((0 : Int)).toNat = 0 from rfl] at hw235_2)
  (try rw [show 0 * 3 = 0 from rfl] at hw235_2)
  (try rw [Addr.add_zero'] at hw235_2)
  have hw235_1 := hx235_1
  (try rw [show ((0 : Int)).toNat = 0 from rfl] at hw235_1)
  (try rw [show 0 * 3 = 0 from rfl] at hw235_1)
  (try rw [Addr.add_zero'] at hw235_1)
  have hw235_0 := hx235_0
  (try rw [show ((0 : Int)).toNat = 0 from rfl] at hw235_0)
  (try rw [show 0 * 3 = 0 from rfl] at hw235_0)
  (try rw [Addr.add_zero'] at hw235_0)
  cases e235
  have qi235 : (0 < l1_1.length) = True := eq_true (by omega)
  (try rw [show ((0 : Int)).toNat = 0 from rfl] at hx235_0)
  (try rw [show 0 * 3 = 0 from rfl] at hx235_0)
  (try rw [Addr.add_zero'] at hx235_0)
  (try rw [show ((0 : Int)).toNat = 0 from rfl] at hx235_1)
  (try rw [show 0 * 3 = 0 from rfl] at hx235_1)
  (try rw [Addr.add_zero'] at hx235_1)
  (try rw [show ((0 : Int)).toNat = 0 from rfl] at hx235_2)
  (try rw [show 0 * 3 = 0 from rfl] at hx235_2)
  (try rw [Addr.add_zero'] at hx235_2)
  replace hx235_0 := cb_ HB hx235_0
  replace hx235_1 := cb_ HB hx235_1
  replace hx235_2 := cb_ HB hx235_2
  replace p235 := eq_true p235
  replace q235 := eq_true q235
  refine start_ (n := 8) (S := fun w' => w'.cell? ⟨gb233, 0, none⟩ = some (.slice A0_0 l0_0.length c0_0) ∧ w'.cell? ⟨gb233, 1, none⟩ = some (.slice A0_1 l0_1.length c0_1) ∧ w'.cell? ⟨gb234, 0, none⟩ = some (.bool true) ∧ w'.cell? ⟨gb234, 1, none⟩ = some (.slice (some ad235) l1_1.length c1_1) ∧ w'.cell? ad235 = some (.int .i64 ((rd_T51 l1_1 0).f0)) ∧ w'.cell? ⟨ad235.block, ad235.off + 1, none⟩ = some (.int .i64 ((rd_T51 l1_1 0).f1)) ∧ w'.cell? ⟨ad235.block, ad235.off + 2, none⟩ = some (.int .i64 ((rd_T51 l1_1 0).f2))) (ds := []) #[n_, n_, n_, n_, n_, n_, n_, n_] (by kernel_rfl) rfl rfl ⟨(blk_cell BK233.out 0).trans rfl, (blk_cell BK233.out 1).trans rfl, (blk_cell BK234.out 0).trans rfl, (blk_cell BK234.out 1).trans rfl, (cb_ HB hw235_0), (cb_ HB hw235_1), (cb_ HB hw235_2)⟩ (fun hHeld => ?_); refine with_tabW cohousingref26_shape.tab5 cohousingref26_shape.bits5 (fun HT_ HW_ => ?_)
  generalize w28.drew = w31 at BK233 BK234 HB hx235_0 hx235_1 hx235_2 hHeld ⊢
  refine pu_ 1 17 (w_ 8 2) rfl HT_ ?_
  refine ta_ 0 16 (w_ 8 3) rfl HT_ HW_ hHeld (by rintro w' ⟨s0, s1, s2, s3, s4, s5, s6⟩; go_simp; with_reducible rfl) ?_
  refine ta_ 2 18 (w_ 8 7) rfl HT_ HW_ hHeld (by rintro w' ⟨s0, s1, s2, s3, s4, s5, s6⟩; go_simp; with_reducible rfl) ?_
  refine pu_ 3 19 (w_ 8 15) rfl HT_ ?_
  refine pu_ 4 20 (w_ 8 31) rfl HT_ ?_
  refine ta_ 5 21 (w_ 8 63) rfl HT_ HW_ hHeld (by rintro w' ⟨s0, s1, s2, s3, s4, s5, s6⟩; go_simp; with_reducible rfl) ?_
  refine one_ (i := 6) (N := some 22) (w_ 8 127) rfl rfl (one_of HT_.out (by kernel_rfl)) (by decide) (fun K hK => ?_)
  refine goes_ Try.func50 (by kernel_rfl) rfl #[.agg #[.slice A0_0 l0_0.length c0_0, .slice A0_1 l0_1.length c0_1], .int .i64 ((rd_T51 l1_1 0).f2)] (by rfl) rfl rfl (by (try simp only [List.map_toArray, List.map_cons, List.map_nil]); first | done | rfl | (simp only [List.length_drop, List.length_take]; rfl)) ?_
  with_reducible refine (cohousingref26_Free.calls k _ _ l0_0 _ _ l0_1 ((rd_T51 l1_1 0).f2) false _ ?side1 ?side2 ?side3 ?side4 A10.out).mono ?_
  (case side1 => exact cc_ ((Kd.C_below HR0_0.out HB.out)))
  (case side2 => exact HC0_0.out)
  (case side3 => exact cc_ ((Kd.C_below HR0_1.out HB.out)))
  (case side4 => exact HC0_1.out)
  rintro e w32 ⟨rfl, hb⟩
  refine ⟨_, rfl, ?_⟩
  have n0_ := mk_ (blk_below (kk_ BK233) hb)
  have n1_ := mk_ (blk_below (kk_ BK234) hb)
  have n2_ := mk_ (below_step (bs2_ HB GE233 GE234) hb)
  clear BK233
  clear BK234
  clear HB
  have BK233 := n0_
  have BK234 := n1_
  have HB := n2_
  clear n0_ n1_ n2_
  (try clear hb)
  (try clear hb2)
  (try clear hk)
  (try clear hi)
  refine hK.out _ _ ⟨(blk_cell BK233.out 0).trans rfl, (blk_cell BK233.out 1).trans rfl, (blk_cell BK234.out 0).trans rfl, (blk_cell BK234.out 1).trans rfl, (cb_ HB hw235_0), (cb_ HB hw235_1), (cb_ HB hw235_2)⟩ (fun hHeld => ?_)
  clear hK K
  refine norm_ (a' := ?_) ?_ ?_
  rotate_left
  ·show Act.put _ (some 22) _ = _
   simp only [Act.put, sI_, s0_, sS_, i64_w, i32_w]
   rfl
  refine pu_ 7 6 (w_ 8 255) rfl HT_ ?_
  refine done_ (done_of HT_.out (by kernel_rfl)) ?_
  try go_wp2
  go_ret
  exact ⟨ew_, bs2_ HB GE233 GE234⟩
 subst c11
 have H1 : (cohousingref26_shape.l0 k (l1_1.length : Int) 1 true l1_1) = some r := by rw [if_pos rfl] at H; exact H
 clear H
 have H := H1
 clear H1
 have H' := mk_ H
 clear H
 go_enter Try.func47, Try.ntmps47
 try go_wp2_with (first | ((with_reducible refine gate_dst (N := 2) rfl ?_); refine box_event ?hg (N := 2) ?hd (cs := #[.slice A0_0 l0_0.length c0_0, .slice A0_1 l0_1.length c0_1]) (t := 25) ?hr ?_; (case hd => rfl); (case hg => rfl); (case hr => first | (go_simp; done) | (go_simp; rfl)); intro gb233 hg w12 hbox hb; have n0_ := mk_ (below_step (bb_ HB) hb); have n1_ := mk_ (hbox); have n2_ := mk_ (bz_ hg (bb_ HB)); have n3_ := mk_ (bz_ hg (bb_ HB)); clear HB; revert n0_ n1_ n2_ n3_; intro HB BK233 GW233 GE233; clear hb hbox hg) | ((with_reducible refine gate_dst (N := 3) rfl ?_); refine box_event ?hg (N := 3) ?hd (cs := #[.bool true, .slice A1_1 l1_1.length c1_1]) (t := 49) ?hr ?_; (case hd => rfl); (case hg => rfl); (case hr => first | (go_simp; done) | (go_simp; rfl)); intro gb234 hg w13 hbox hb; have n0_ := mk_ (blk_below (kk_ BK233) hb); have n1_ := mk_ (below_step (bs_ HB GE233.out) hb); have n2_ := mk_ (hbox); have n3_ := mk_ (bz_ hg (bs_ HB GE233.out)); have n4_ := mk_ (bz_ hg (bs_ HB GE233.out)); have n5_ := mk_ (bl_ hg (kk_ BK233)); have n6_ := mk_ (bg_ hg (kk_ BK233)); clear BK233 HB; revert n0_ n1_ n2_ n3_ n4_ n5_ n6_; intro BK233 HB BK234 GW234 GE234 NB233_234 NB234_233; clear hb hbox hg; have hnb14 := NB234_233.out; have hnc14 := NB233_234.out; have hcz15_0 := bc0_ BK234.out; have hcz15_1 := bc1_ BK234.out; have hfz15_0 := blk_frozen BK234.out 0; have hfz15_1 := blk_frozen BK234.out 1))
 have n0_ := mk_ (blk_drew BK233.out)
 have n1_ := mk_ (blk_drew BK234.out)
 have n2_ := mk_ (below_drew1 HB.out)
 clear BK233
 clear BK234
 clear HB
 have BK233 := n0_
 have BK234 := n1_
 have HB := n2_
 clear n0_ n1_ n2_
 have p235 : 0 ≤ (0 : Int) := (by omega)
 have q235 : 0 < (l1_1.length : Int) := od_
 obtain ⟨ad235, e235, hx235_0, hx235_1, hx235_2⟩ := at_T51 HR1_1.out 0 p235 q235
 have hw235_2 := hx235_2
 (try rw [show ((0 : Int)).toNat = 0 from rfl] at hw235_2)
 (try rw [show 0 * 3 = 0 from rfl] at hw235_2)
 (try rw [Addr.add_zero'] at hw235_2)
 have hw235_1 := hx235_1
 (try rw [show ((0 : Int)).toNat = 0 from rfl] at hw235_1)
 (try rw [show 0 * 3 = 0 from rfl] at hw235_1)
 (try rw [Addr.add_zero'] at hw235_1)
 have hw235_0 := hx235_0
 (try rw [show ((0 : Int)).toNat = 0 from rfl] at hw235_0)
 (try rw [show 0 * 3 = 0 from rfl] at hw235_0)
 (try rw [Addr.add_zero'] at hw235_0)
 cases e235
 have qi235 : (0 < l1_1.length) = True := eq_true (by omega)
 (try rw [show ((0 : Int)).toNat = 0 from rfl] at hx235_0)
 (try rw [show 0 * 3 = 0 from rfl] at hx235_0)
 (try rw [Addr.add_zero'] at hx235_0)
 (try rw [show ((0 : Int)).toNat = 0 from rfl] at hx235_1)
 (try rw [show 0 * 3 = 0 from rfl] at hx235_1)
 (try rw [Addr.add_zero'] at hx235_1)
 (try rw [show ((0 : Int)).toNat = 0 from rfl] at hx235_2)
 (try rw [show 0 * 3 = 0 from rfl] at hx235_2)
 (try rw [Addr.add_zero'] at hx235_2)
 replace hx235_0 := cb_ HB hx235_0
 replace hx235_1 := cb_ HB hx235_1
 replace hx235_2 := cb_ HB hx235_2
 replace p235 := eq_true p235
 replace q235 := eq_true q235
 refine start_ (n := 8) (S := fun w' => w'.cell? ⟨gb233, 0, none⟩ = some (.slice A0_0 l0_0.length c0_0) ∧ w'.cell? ⟨gb233, 1, none⟩ = some (.slice A0_1 l0_1.length c0_1) ∧ w'.cell? ⟨gb234, 0, none⟩ = some (.bool true) ∧ w'.cell? ⟨gb234, 1, none⟩ = some (.slice (some ad235) l1_1.length c1_1) ∧ w'.cell? ad235 = some (.int .i64 ((rd_T51 l1_1 0).f0)) ∧ w'.cell? ⟨ad235.block, ad235.off + 1, none⟩ = some (.int .i64 ((rd_T51 l1_1 0).f1)) ∧ w'.cell? ⟨ad235.block, ad235.off + 2, none⟩ = some (.int .i64 ((rd_T51 l1_1 0).f2))) (ds := []) #[n_, n_, n_, n_, n_, n_, n_, n_] (by kernel_rfl) rfl rfl ⟨(blk_cell BK233.out 0).trans rfl, (blk_cell BK233.out 1).trans rfl, (blk_cell BK234.out 0).trans rfl, (blk_cell BK234.out 1).trans rfl, (cb_ HB hw235_0), (cb_ HB hw235_1), (cb_ HB hw235_2)⟩ (fun hHeld => ?_); refine with_tabW cohousingref26_shape.tab5 cohousingref26_shape.bits5 (fun HT_ HW_ => ?_)
 generalize w13.drew = w16 at BK233 BK234 HB hx235_0 hx235_1 hx235_2 hHeld ⊢
 refine pu_ 1 17 (w_ 8 2) rfl HT_ ?_
 refine ta_ 0 16 (w_ 8 3) rfl HT_ HW_ hHeld (by rintro w' ⟨s0, s1, s2, s3, s4, s5, s6⟩; go_simp; with_reducible rfl) ?_
 refine ta_ 2 18 (w_ 8 7) rfl HT_ HW_ hHeld (by rintro w' ⟨s0, s1, s2, s3, s4, s5, s6⟩; go_simp; with_reducible rfl) ?_
 refine pu_ 3 19 (w_ 8 15) rfl HT_ ?_
 refine pu_ 4 20 (w_ 8 31) rfl HT_ ?_
 refine ta_ 5 21 (w_ 8 63) rfl HT_ HW_ hHeld (by rintro w' ⟨s0, s1, s2, s3, s4, s5, s6⟩; go_simp; with_reducible rfl) ?_
 refine one_ (i := 6) (N := some 22) (w_ 8 127) rfl rfl (one_of HT_.out (by kernel_rfl)) (by decide) (fun K hK => ?_)
 refine goes_ Try.func50 (by kernel_rfl) rfl #[.agg #[.slice A0_0 l0_0.length c0_0, .slice A0_1 l0_1.length c0_1], .int .i64 ((rd_T51 l1_1 0).f2)] (by rfl) rfl rfl (by (try simp only [List.map_toArray, List.map_cons, List.map_nil]); first | done | rfl | (simp only [List.length_drop, List.length_take]; rfl)) ?_
 with_reducible refine (cohousingref26_Free.calls k _ _ l0_0 _ _ l0_1 ((rd_T51 l1_1 0).f2) true _ ?side1 ?side2 ?side3 ?side4 A10.out).mono ?_
 (case side1 => exact cc_ ((Kd.C_below HR0_0.out HB.out)))
 (case side2 => exact HC0_0.out)
 (case side3 => exact cc_ ((Kd.C_below HR0_1.out HB.out)))
 (case side4 => exact HC0_1.out)
 rintro e w17 ⟨rfl, hb⟩
 refine ⟨_, rfl, ?_⟩
 have n0_ := mk_ (blk_below (kk_ BK233) hb)
 have n1_ := mk_ (blk_below (kk_ BK234) hb)
 have n2_ := mk_ (below_step (bs2_ HB GE233 GE234) hb)
 clear BK233
 clear BK234
 clear HB
 have BK233 := n0_
 have BK234 := n1_
 have HB := n2_
 clear n0_ n1_ n2_
 (try clear hb)
 (try clear hb2)
 (try clear hk)
 (try clear hi)
 refine hK.out _ _ ⟨(blk_cell BK233.out 0).trans rfl, (blk_cell BK233.out 1).trans rfl, (blk_cell BK234.out 0).trans rfl, (blk_cell BK234.out 1).trans rfl, (cb_ HB hw235_0), (cb_ HB hw235_1), (cb_ HB hw235_2)⟩ (fun hHeld => ?_)
 clear hK K
 refine norm_ (a' := ?_) ?_ ?_
 rotate_left
 ·show Act.put _ (some 22) _ = _
  simp only [Act.put, sI_, s0_, sS_, i64_w, i32_w]
  rfl
 refine pu_ 7 6 (w_ 8 255) rfl HT_ ?_
 refine done_ (done_of HT_.out (by kernel_rfl)) ?_
 try go_wp2
 go_loopg [7] k (fun kq v7 w' => ∃ (x7_1 : Int), v7 = .int .i64 x7_1 ∧ Aside0 (cohousingref26_shape.l0 kq (l1_1.length : Int) x7_1 true l1_1 = some r) ∧ Aside0 (kq ≤ k) ∧ Aside0 (w'.heap[gb233]? = some (.cells #[(.slice A0_0 l0_0.length c0_0), (.slice A0_1 l0_1.length c0_1)] 25 (0, 0))) ∧ Aside0 (w'.heap[gb234]? = some (.cells #[.bool true, (.slice (some ad235) l1_1.length c1_1)] 49 (0, 0))) ∧ Aside0 (Below w.heap.size w w'))
 case atStart => exact ⟨(1), sd_, H', ⟨Nat.le_refl _⟩, ⟨kk_ BK233⟩, ⟨kk_ BK234⟩, ⟨bs2_ HB GE233 GE234⟩⟩
 case round =>
  clear H'
  try clear c1; try clear p2; try clear q2; try clear hx2; try clear qi2; try clear c3; try clear c3b0; try clear c3b1; try clear c3b2; try clear c4; try clear c5; try clear c6; try clear c8; try clear c9; try clear c9b0; try clear c9b1; try clear c11; try clear c14; try clear hcz15_0; try clear hcz15_1; try clear hcz7_0; try clear hcz7_1; try clear hfz15_0; try clear hfz15_1; try clear hfz7_0; try clear hfz7_1; try clear hx235_0; try clear hx235_1; try clear hx235_2; try clear p235; try clear q235
  obtain ⟨x7_1, rfl, HA, HK1, BK233, BK234, HB⟩ := hrel
  cases gk with
  | zero => exact absurd HA.out (by simp [cohousingref26_shape.l0])
  | succ k1 =>
   have H := HA.out
   clear HA
   simp only [cohousingref26_shape.l0] at H
   by_cases c18 : x7_1 < (l1_1.length : Int)
   rotate_left
   ·rw [if_neg c18] at H
    have c18b0 : decide (x7_1 < (l1_1.length : Int)) = false := decide_eq_false c18
    clear c18
    obtain rfl := Option.some.inj H
    go_wp2
    go_ret
    exact ⟨ew_, bs2_ HB GE233 GE234⟩
   rw [if_pos c18] at H
   have c18b0 : decide (x7_1 < (l1_1.length : Int)) = true := decide_eq_true c18
   clear c18
   by_cases c19 : 0 ≤ x7_1
   rotate_left
   ·rw [if_neg c19] at H
    exact absurd H (by simp)
   rw [if_pos c19] at H
   have c19b0 : decide (0 ≤ x7_1) = true := decide_eq_true c19
   clear c19
   by_cases c20 : x7_1 < (l1_1.length : Int)
   rotate_left
   ·rw [if_neg c20] at H
    exact absurd H (by simp)
   rw [if_pos c20] at H
   have c20b0 : decide (x7_1 < (l1_1.length : Int)) = true := decide_eq_true c20
   clear c20
   obtain ⟨ji21, hji21⟩ : ∃ j_ : Int, (wrap64 (x7_1 - 1)) = j_ := ⟨_, rfl⟩
   replace H : (if 0 ≤ (ji21) then (if (ji21) < (l1_1.length : Int) then (if ((rd_T51 l1_1 x7_1).f2) = ((rd_T51 l1_1 (ji21)).f1) then (cohousingref26_shape.l0 k1 (l1_1.length : Int) (wrap64 (x7_1 + 1)) true l1_1) else (some false)) else (none)) else (none)) = some r := by first | (rw [hji21] at H; exact H) | (simp only [hji21] at H ⊢; exact H)
   have hji21w : (IntKind.i64.wrap (x7_1 - 1)) = ji21 := (i64_w _).trans hji21
   by_cases c22 : 0 ≤ (ji21)
   rotate_left
   ·rw [if_neg c22] at H
    exact absurd H (by simp)
   rw [if_pos c22] at H
   have c22b0 : decide (0 ≤ (ji21)) = true := decide_eq_true c22
   clear c22
   by_cases c23 : (ji21) < (l1_1.length : Int)
   rotate_left
   ·rw [if_neg c23] at H
    exact absurd H (by simp)
   rw [if_pos c23] at H
   have c23b0 : decide ((ji21) < (l1_1.length : Int)) = true := decide_eq_true c23
   clear c23
   by_cases c24 : ((rd_T51 l1_1 x7_1).f2) = ((rd_T51 l1_1 (ji21)).f1)
   rotate_left
   ·rw [if_neg c24] at H
    have c24b0 : (((rd_T51 l1_1 x7_1).f2) == ((rd_T51 l1_1 (ji21)).f1)) = false := beq_eq_false_iff_ne.mpr c24
    have c24b1 : (((rd_T51 l1_1 x7_1).f2) != ((rd_T51 l1_1 (ji21)).f1)) = true := bne_iff_ne.mpr c24
    obtain rfl := Option.some.inj H
    try go_wp2
    have n0_ := mk_ (blk_drew BK233.out)
    have n1_ := mk_ (blk_drew BK234.out)
    have n2_ := mk_ (below_drew1 HB.out)
    clear BK233
    clear BK234
    clear HB
    have BK233 := n0_
    have BK234 := n1_
    have HB := n2_
    clear n0_ n1_ n2_
    have p237 : 0 ≤ (x7_1 : Int) := od_
    have q237 : x7_1 < (l1_1.length : Int) := od_
    obtain ⟨ad237, e237, hx237_0, hx237_1, hx237_2⟩ := at_T51 HR1_1.out x7_1 p237 q237
    have hw237_2 := hx237_2
    have hw237_1 := hx237_1
    have hw237_0 := hx237_0
    obtain rfl : ad235 = ad237 := (by injection e237)
    replace hx237_0 := cb_ HB hx237_0
    replace hx237_1 := cb_ HB hx237_1
    replace hx237_2 := cb_ HB hx237_2
    replace p237 := eq_true p237
    replace q237 := eq_true q237
    have p238 : 0 ≤ ((ji21) : Int) := od_
    have q238 : (ji21) < (l1_1.length : Int) := od_
    obtain ⟨ad238, e238, hx238_0, hx238_1, hx238_2⟩ := at_T51 HR1_1.out (ji21) p238 q238
    have hw238_2 := hx238_2
    have hw238_1 := hx238_1
    have hw238_0 := hx238_0
    obtain rfl : ad235 = ad238 := (by injection e238)
    replace hx238_0 := cb_ HB hx238_0
    replace hx238_1 := cb_ HB hx238_1
    replace hx238_2 := cb_ HB hx238_2
    replace p238 := eq_true p238
    replace q238 := eq_true q238
    refine start_ (n := 14) (S := fun w' => w'.cell? ⟨gb234, 0, none⟩ = some (.bool true) ∧ w'.cell? ⟨gb234, 1, none⟩ = some (.slice (some ad235) l1_1.length c1_1) ∧ w'.cell? (ad235.add ((x7_1).toNat * 3)) = some (.int .i64 ((rd_T51 l1_1 x7_1).f0)) ∧ w'.cell? ⟨(ad235.add ((x7_1).toNat * 3)).block, (ad235.add ((x7_1).toNat * 3)).off + 1, none⟩ = some (.int .i64 ((rd_T51 l1_1 x7_1).f1)) ∧ w'.cell? ⟨(ad235.add ((x7_1).toNat * 3)).block, (ad235.add ((x7_1).toNat * 3)).off + 2, none⟩ = some (.int .i64 ((rd_T51 l1_1 x7_1).f2)) ∧ w'.cell? (ad235.add (((ji21)).toNat * 3)) = some (.int .i64 ((rd_T51 l1_1 (ji21)).f0)) ∧ w'.cell? ⟨(ad235.add (((ji21)).toNat * 3)).block, (ad235.add (((ji21)).toNat * 3)).off + 1, none⟩ = some (.int .i64 ((rd_T51 l1_1 (ji21)).f1)) ∧ w'.cell? ⟨(ad235.add (((ji21)).toNat * 3)).block, (ad235.add (((ji21)).toNat * 3)).off + 2, none⟩ = some (.int .i64 ((rd_T51 l1_1 (ji21)).f2))) (ds := []) #[n_, n_, n_, n_, n_, n_, n_, n_, n_, n_, n_, n_, n_, n_] (by kernel_rfl) rfl rfl ⟨(blk_cell BK234.out 0).trans rfl, (blk_cell BK234.out 1).trans rfl, (cb_ HB hw237_0), (cb_ HB hw237_1), (cb_ HB hw237_2), (cb_ HB hw238_0), (cb_ HB hw238_1), (cb_ HB hw238_2)⟩ (fun hHeld => ?_); refine with_tabW cohousingref26_shape.tab11 cohousingref26_shape.bits11 (fun HT_ HW_ => ?_)
    generalize wr.drew = w26 at BK233 BK234 HB hx237_0 hx237_1 hx237_2 hx238_0 hx238_1 hx238_2 hHeld ⊢
    refine pu_ 0 30 (w_ 14 1) rfl HT_ ?_
    refine pu_ 2 32 (w_ 14 5) rfl HT_ ?_
    refine pu_ 6 36 (w_ 14 69) rfl HT_ ?_
    refine pu_ 8 38 (w_ 14 325) rfl HT_ ?_
    refine pu_ 9 39 (w_ 14 837) rfl HT_ ?_
    refine ta_ 1 31 (w_ 14 839) rfl HT_ HW_ hHeld (by rintro w' ⟨s0, s1, s2, s3, s4, s5, s6, s7⟩; go_simp; with_reducible rfl) ?_
    refine pu_ 3 33 (w_ 14 847) rfl HT_ ?_
    refine pu_ 4 34 (w_ 14 863) rfl HT_ ?_
    refine ta_ 5 35 (w_ 14 895) rfl HT_ HW_ hHeld (by rintro w' ⟨s0, s1, s2, s3, s4, s5, s6, s7⟩; go_simp; with_reducible rfl) ?_
    refine ta_ 7 37 (w_ 14 1023) rfl HT_ HW_ hHeld (by rintro w' ⟨s0, s1, s2, s3, s4, s5, s6, s7⟩; go_simp; with_reducible rfl) ?_
    refine pu_ 10 40 (w_ 14 2047) rfl HT_ ?_
    refine pu_ 11 41 (w_ 14 4095) rfl HT_ ?_
    refine ta_ 12 42 (w_ 14 8191) rfl HT_ HW_ hHeld (by rintro w' ⟨s0, s1, s2, s3, s4, s5, s6, s7⟩; go_simp; with_reducible rfl) ?_
    refine pu_ 13 43 (w_ 14 16383) rfl HT_ ?_
    refine done_ (done_of HT_.out (by kernel_rfl)) ?_
    try go_wp2
    go_ret
    exact ⟨by first | rfl | (simp [errW_none, errW_some] <;> rfl) | (simp only [← hji21]; first | rfl | (simp [errW_none, errW_some] <;> rfl)) | (simp [*, errW_none, errW_some] <;> rfl), bs2_ HB GE233 GE234⟩
   rw [if_pos c24] at H
   have c24b0 : (((rd_T51 l1_1 x7_1).f2) == ((rd_T51 l1_1 (ji21)).f1)) = true := beq_iff_eq.mpr c24
   have c24b1 : (((rd_T51 l1_1 x7_1).f2) != ((rd_T51 l1_1 (ji21)).f1)) = false := bne_eq_false_iff_eq.mpr c24
   clear c24
   have H' := mk_ H
   clear H
   try go_wp2
   have n0_ := mk_ (blk_drew BK233.out)
   have n1_ := mk_ (blk_drew BK234.out)
   have n2_ := mk_ (below_drew1 HB.out)
   clear BK233
   clear BK234
   clear HB
   have BK233 := n0_
   have BK234 := n1_
   have HB := n2_
   clear n0_ n1_ n2_
   have p237 : 0 ≤ (x7_1 : Int) := od_
   have q237 : x7_1 < (l1_1.length : Int) := od_
   obtain ⟨ad237, e237, hx237_0, hx237_1, hx237_2⟩ := at_T51 HR1_1.out x7_1 p237 q237
   have hw237_2 := hx237_2
   have hw237_1 := hx237_1
   have hw237_0 := hx237_0
   obtain rfl : ad235 = ad237 := (by injection e237)
   replace hx237_0 := cb_ HB hx237_0
   replace hx237_1 := cb_ HB hx237_1
   replace hx237_2 := cb_ HB hx237_2
   replace p237 := eq_true p237
   replace q237 := eq_true q237
   have p238 : 0 ≤ ((ji21) : Int) := od_
   have q238 : (ji21) < (l1_1.length : Int) := od_
   obtain ⟨ad238, e238, hx238_0, hx238_1, hx238_2⟩ := at_T51 HR1_1.out (ji21) p238 q238
   have hw238_2 := hx238_2
   have hw238_1 := hx238_1
   have hw238_0 := hx238_0
   obtain rfl : ad235 = ad238 := (by injection e238)
   replace hx238_0 := cb_ HB hx238_0
   replace hx238_1 := cb_ HB hx238_1
   replace hx238_2 := cb_ HB hx238_2
   replace p238 := eq_true p238
   replace q238 := eq_true q238
   refine start_ (n := 14) (S := fun w' => w'.cell? ⟨gb234, 0, none⟩ = some (.bool true) ∧ w'.cell? ⟨gb234, 1, none⟩ = some (.slice (some ad235) l1_1.length c1_1) ∧ w'.cell? (ad235.add ((x7_1).toNat * 3)) = some (.int .i64 ((rd_T51 l1_1 x7_1).f0)) ∧ w'.cell? ⟨(ad235.add ((x7_1).toNat * 3)).block, (ad235.add ((x7_1).toNat * 3)).off + 1, none⟩ = some (.int .i64 ((rd_T51 l1_1 x7_1).f1)) ∧ w'.cell? ⟨(ad235.add ((x7_1).toNat * 3)).block, (ad235.add ((x7_1).toNat * 3)).off + 2, none⟩ = some (.int .i64 ((rd_T51 l1_1 x7_1).f2)) ∧ w'.cell? (ad235.add (((ji21)).toNat * 3)) = some (.int .i64 ((rd_T51 l1_1 (ji21)).f0)) ∧ w'.cell? ⟨(ad235.add (((ji21)).toNat * 3)).block, (ad235.add (((ji21)).toNat * 3)).off + 1, none⟩ = some (.int .i64 ((rd_T51 l1_1 (ji21)).f1)) ∧ w'.cell? ⟨(ad235.add (((ji21)).toNat * 3)).block, (ad235.add (((ji21)).toNat * 3)).off + 2, none⟩ = some (.int .i64 ((rd_T51 l1_1 (ji21)).f2))) (ds := []) #[n_, n_, n_, n_, n_, n_, n_, n_, n_, n_, n_, n_, n_, n_] (by kernel_rfl) rfl rfl ⟨(blk_cell BK234.out 0).trans rfl, (blk_cell BK234.out 1).trans rfl, (cb_ HB hw237_0), (cb_ HB hw237_1), (cb_ HB hw237_2), (cb_ HB hw238_0), (cb_ HB hw238_1), (cb_ HB hw238_2)⟩ (fun hHeld => ?_); refine with_tabW cohousingref26_shape.tab11 cohousingref26_shape.bits11 (fun HT_ HW_ => ?_)
   generalize wr.drew = w25 at BK233 BK234 HB hx237_0 hx237_1 hx237_2 hx238_0 hx238_1 hx238_2 hHeld ⊢
   refine pu_ 0 30 (w_ 14 1) rfl HT_ ?_
   refine pu_ 2 32 (w_ 14 5) rfl HT_ ?_
   refine pu_ 6 36 (w_ 14 69) rfl HT_ ?_
   refine pu_ 8 38 (w_ 14 325) rfl HT_ ?_
   refine pu_ 9 39 (w_ 14 837) rfl HT_ ?_
   refine ta_ 1 31 (w_ 14 839) rfl HT_ HW_ hHeld (by rintro w' ⟨s0, s1, s2, s3, s4, s5, s6, s7⟩; go_simp; with_reducible rfl) ?_
   refine pu_ 3 33 (w_ 14 847) rfl HT_ ?_
   refine pu_ 4 34 (w_ 14 863) rfl HT_ ?_
   refine ta_ 5 35 (w_ 14 895) rfl HT_ HW_ hHeld (by rintro w' ⟨s0, s1, s2, s3, s4, s5, s6, s7⟩; go_simp; with_reducible rfl) ?_
   refine ta_ 7 37 (w_ 14 1023) rfl HT_ HW_ hHeld (by rintro w' ⟨s0, s1, s2, s3, s4, s5, s6, s7⟩; go_simp; with_reducible rfl) ?_
   refine pu_ 10 40 (w_ 14 2047) rfl HT_ ?_
   refine pu_ 11 41 (w_ 14 4095) rfl HT_ ?_
   refine ta_ 12 42 (w_ 14 8191) rfl HT_ HW_ hHeld (by rintro w' ⟨s0, s1, s2, s3, s4, s5, s6, s7⟩; go_simp; with_reducible rfl) ?_
   refine pu_ 13 43 (w_ 14 16383) rfl HT_ ?_
   refine done_ (done_of HT_.out (by kernel_rfl)) ?_
   try go_wp2
   go_roundg k1
   case measure => have := HK1.out; omega
   case rel => exact ⟨(wrap64 (x7_1 + 1)), sd_, H', ⟨by have := HK1.out; omega⟩, ⟨kk_ BK233⟩, ⟨kk_ BK234⟩, ⟨bs2_ HB GE233 GE234⟩⟩
end Go.Proofs.Ytocbiggglnpeoaa.M
end
section
namespace Go.Proofs.Ytocbiggglnpeoaa.M
open Go.RowKit Go.Proofs.YtocbiggglnpeoaaW.PrintWords Go.Proofs.YtocbiggglnpeoaaW.PrintLast Go.Proofs.YtocbiggglnpeoaaW.PrintMore
attribute [local go_sem] max2_int min2_int max_two min_two max_three min_three max_four min_four
set_option linter.unusedVariables false
set_option linter.unusedSimpArgs false
mutual
def cohousingref26_Rings.l0 : Nat → List (S49) → List Int → List Int → Int → List (S84) → List (S46) → Option (Bool)
 | 0, _, _, _, _, _, _ => none
 | k + 1, x1, x5, x6, x7, x243000, x243001 => if x7 < (x1.length : Int) then (cohousingref26_Rings.l1 k x1 x5 x6 x7 0 x243000 x243001) else (some true)
def cohousingref26_Rings.l1 : Nat → List (S49) → List Int → List Int → Int → Int → List (S84) → List (S46) → Option (Bool)
 | 0, _, _, _, _, _, _, _ => none
 | k + 1, x1, x5, x6, x7, x8, x243000, x243001 => if 0 ≤ x7 then (if x7 < (x1.length : Int) then (if x8 < (((rd_T49 x1 x7).f1).length : Int) then (if 0 ≤ x8 then ((cohousingref26_move.f k x243000 x243001 ((rd_T51 ((rd_T49 x1 x7).f1) x8).f0) ((rd_T51 ((rd_T49 x1 x7).f1) x8).f1) ((rd_T51 ((rd_T49 x1 x7).f1) x8).f2)).bind fun t249 => (if t249 = true then ((cohousingref23_In.f k x5 ((rd_T51 ((rd_T49 x1 x7).f1) x8).f0)).bind fun t250 => (if t250 ≥ 0 then (some false) else ((cohousingref23_In.f k x6 ((rd_T51 ((rd_T49 x1 x7).f1) x8).f2)).bind fun t251 => (if t251 ≥ 0 then (some false) else (if x5.length < 17592186044416 then (if x6.length < 17592186044416 then (cohousingref26_Rings.l1 k x1 (x5 ++ [(rd_T51 ((rd_T49 x1 x7).f1) x8).f0]) (x6 ++ [(rd_T51 ((rd_T49 x1 x7).f1) x8).f2]) x7 (wrap64 (x8 + 1)) x243000 x243001) else (none)) else (none)))))) else (some false))) else (none)) else ((cohousingref26_shape.f k x243000 x243001 ((rd_T49 x1 x7).f0) ((rd_T49 x1 x7).f1)).bind fun t245 => (if t245 = true then (cohousingref26_Rings.l0 k x1 x5 x6 (wrap64 (x7 + 1)) x243000 x243001) else (some false)))) else (none)) else (none)
end
def cohousingref26_Rings.f (k : Nat) (l0_0 : List (S84)) (l0_1 : List (S46)) (l1 : List (S49)) : Option (Bool) := if (l1.length : Int) > 64 then (some false) else (cohousingref26_Rings.l0 k l1 ([] : List Int) ([] : List Int) 0 l0_0 l0_1)
set_option maxHeartbeats 8000000 in
set_option maxRecDepth 100000 in
theorem cohousingref26_Rings.calls (k : Nat) (A0_0 : Option Addr) (c0_0 : Nat) (l0_0 : List (S84)) (A0_1 : Option Addr) (c0_1 : Nat) (l0_1 : List (S46)) (A1 : Option Addr) (c1 : Nat) (l1 : List (S49)) (r : Bool) (w : World) (hr0_0 : Kd.C k84 w A0_0 l0_0.length l0_0) (hc0_0 : l0_0.length ≤ c0_0) (hr0_1 : Kd.C k46 w A0_1 l0_1.length l0_1) (hc0_1 : l0_1.length ≤ c0_1) (hr1 : Kd.C k49 w A1 l1.length l1) (hc1 : l1.length ≤ c1) (h : cohousingref26_Rings.f k l0_0 l0_1 l1 = some r) :
  Calls Try.prog 35 #[.agg #[.slice A0_0 l0_0.length c0_0, .slice A0_1 l0_1.length c0_1], .slice A1 l1.length c1] w fun e w' => e = .returned (.bool r) ∧ Below w.heap.size w w' := by
 have hu25 := Try.underlying25
 have hu51 := Try.underlying51
 have hu49 := Try.underlying49
 have HR0_0 := mk_ hr0_0
 have HC0_0 := mk_ hc0_0
 clear hr0_0 hc0_0
 have HR0_1 := mk_ hr0_1
 have HC0_1 := mk_ hc0_1
 clear hr0_1 hc0_1
 have HR1 := mk_ hr1
 have HC1 := mk_ hc1
 clear hr1 hc1
 have HB := mk_ (Below.refl w.heap.size w)
 have H : (if (l1.length : Int) > 64 then (some false) else (cohousingref26_Rings.l0 k l1 ([] : List Int) ([] : List Int) 0 l0_0 l0_1)) = some r := h
 clear h
 by_cases c3 : (l1.length : Int) > 64
 ·rw [if_pos c3] at H
  have c3b0 : decide (64 < (l1.length : Int)) = true := decide_eq_true c3
  have c3b1 : decide (64 < l1.length) = true := decide_eq_true (by omega)
  clear c3
  obtain rfl := Option.some.inj H
  go_enter Try.func35, Try.ntmps35
  go_wp2_with (first | ((with_reducible refine gate_dst (N := 2) rfl ?_); refine box_event ?hg (N := 2) ?hd (cs := #[.slice A0_0 l0_0.length c0_0, .slice A0_1 l0_1.length c0_1]) (t := 25) ?hr ?_; (case hd => rfl); (case hg => rfl); (case hr => first | (go_simp; done) | (go_simp; rfl)); intro gb242 hg w4 hbox hb; have n0_ := mk_ (below_step (bb_ HB) hb); have n1_ := mk_ (hbox); have n2_ := mk_ (bz_ hg (bb_ HB)); have n3_ := mk_ (bz_ hg (bb_ HB)); clear HB; revert n0_ n1_ n2_ n3_; intro HB BK242 GW242 GE242; clear hb hbox hg))
  go_ret
  exact ⟨ew_, bs1_ HB GE242⟩
 rw [if_neg c3] at H
 have c3b0 : decide (64 < (l1.length : Int)) = false := decide_eq_false c3
 have c3b1 : decide (64 < l1.length) = false := decide_eq_false (by omega)
 clear c3
 have H' := mk_ H
 clear H
 go_enter Try.func35, Try.ntmps35
 go_wp2_with (first | ((with_reducible refine gate_dst (N := 2) rfl ?_); refine box_event ?hg (N := 2) ?hd (cs := #[.slice A0_0 l0_0.length c0_0, .slice A0_1 l0_1.length c0_1]) (t := 25) ?hr ?_; (case hd => rfl); (case hg => rfl); (case hr => first | (go_simp; done) | (go_simp; rfl)); intro gb242 hg w5 hbox hb; have n0_ := mk_ (below_step (bb_ HB) hb); have n1_ := mk_ (hbox); have n2_ := mk_ (bz_ hg (bb_ HB)); have n3_ := mk_ (bz_ hg (bb_ HB)); clear HB; revert n0_ n1_ n2_ n3_; intro HB BK242 GW242 GE242; clear hb hbox hg))
 go_loopg [5, 6, 7] k (fun kq v5 v6 v7 w' => ∃ (x5_1 : List Int) (x6_1 : List Int) (x7_1 : Int), v7 = .int .i64 x7_1 ∧ Aside0 (cohousingref26_Rings.l0 kq l1 x5_1 x6_1 x7_1 l0_0 l0_1 = some r) ∧ Aside0 (kq ≤ k) ∧ Aside0 (Kd.R (Kd.int .i64) 3 w' w.heap.size (fun k_ => some k_ ≠ (v6 : Value).ownBlock) v5 x5_1) ∧ Aside0 (Kd.R (Kd.int .i64) 3 w' w.heap.size (fun k_ => some k_ ≠ (v5 : Value).ownBlock) v6 x6_1) ∧ Aside0 (w'.heap[gb242]? = some (.cells #[(.slice A0_0 l0_0.length c0_0), (.slice A0_1 l0_1.length c0_1)] 25 (0, 0))) ∧ Aside0 (Below w.heap.size w w'))
 case atStart => exact ⟨(([] : List Int)), (([] : List Int)), (0), sd_, H', ⟨Nat.le_refl _⟩, ⟨by first | exact Kd.R_nil _ _ _ _ _ | exact Kd.N_nil _ _ _ _ _ | exact Kd.V_nil _ _ _ _ _ | exact Kd.Q_nil _ _ _ _ _ | exact Kd.S_nil _ _ _ _ _⟩, ⟨by first | exact Kd.R_nil _ _ _ _ _ | exact Kd.N_nil _ _ _ _ _ | exact Kd.V_nil _ _ _ _ _ | exact Kd.Q_nil _ _ _ _ _ | exact Kd.S_nil _ _ _ _ _⟩, ⟨kk_ BK242⟩, ⟨bs1_ HB GE242⟩⟩
 case round =>
  clear H'
  try clear c1; try clear p2; try clear c3; try clear c3b0; try clear c3b1
  obtain ⟨x5_1, x6_1, x7_1, rfl, HA, HK1, HO_5, HO_6, BK242, HB⟩ := hrel
  cases gk with
  | zero => exact absurd HA.out (by simp [cohousingref26_Rings.l0])
  | succ k1 =>
   have H := HA.out
   clear HA
   simp only [cohousingref26_Rings.l0] at H
   by_cases c6 : x7_1 < (l1.length : Int)
   rotate_left
   ·rw [if_neg c6] at H
    have c6b0 : decide (x7_1 < (l1.length : Int)) = false := decide_eq_false c6
    clear c6
    obtain rfl := Option.some.inj H
    go_wp2
    go_ret
    exact ⟨ew_, bs1_ HB GE242⟩
   rw [if_pos c6] at H
   have c6b0 : decide (x7_1 < (l1.length : Int)) = true := decide_eq_true c6
   clear c6
   have H' := mk_ H
   clear H
   go_wp2
   go_loopg [5, 6, 8] k1 (fun kq v5 v6 v8 w' => ∃ (x5_2 : List Int) (x6_2 : List Int) (x8_2 : Int), v8 = .int .i64 x8_2 ∧ Aside0 (cohousingref26_Rings.l1 kq l1 x5_2 x6_2 x7_1 x8_2 l0_0 l0_1 = some r) ∧ Aside0 (kq ≤ k1) ∧ Aside0 (Kd.R (Kd.int .i64) 3 w' w.heap.size (fun k_ => some k_ ≠ (v6 : Value).ownBlock) v5 x5_2) ∧ Aside0 (Kd.R (Kd.int .i64) 3 w' w.heap.size (fun k_ => some k_ ≠ (v5 : Value).ownBlock) v6 x6_2) ∧ Aside0 (w'.heap[gb242]? = some (.cells #[(.slice A0_0 l0_0.length c0_0), (.slice A0_1 l0_1.length c0_1)] 25 (0, 0))) ∧ Aside0 (Below w.heap.size w w'))
   case atStart => exact ⟨(x5_1), (x6_1), (0), sd_, H', ⟨Nat.le_refl _⟩, ⟨rr_ HO_5⟩, ⟨rr_ HO_6⟩, ⟨kk_ BK242⟩, ⟨bs1_ HB GE242⟩⟩
   case round =>
    clear H'
    try clear c1; try clear p2; try clear c3; try clear c3b0; try clear c3b1; try clear c6; try clear c6b0; try clear p2
    obtain ⟨x5_2, x6_2, x8_2, rfl, HA, HK2, HO_5, HO_6, BK242, HB⟩ := hrel
    cases gk with
    | zero => exact absurd HA.out (by simp [cohousingref26_Rings.l1])
    | succ k2 =>
     have H := HA.out
     clear HA
     simp only [cohousingref26_Rings.l1] at H
     by_cases c7 : 0 ≤ x7_1
     rotate_left
     ·rw [if_neg c7] at H
      exact absurd H (by simp)
     rw [if_pos c7] at H
     have c7b0 : decide (0 ≤ x7_1) = true := decide_eq_true c7
     clear c7
     by_cases c8 : x7_1 < (l1.length : Int)
     rotate_left
     ·rw [if_neg c8] at H
      exact absurd H (by simp)
     rw [if_pos c8] at H
     have c8b0 : decide (x7_1 < (l1.length : Int)) = true := decide_eq_true c8
     clear c8
     by_cases c9 : x8_2 < (((rd_T49 l1 x7_1).f1).length : Int)
     rotate_left
     ·rw [if_neg c9] at H
      have c9b0 : decide (x8_2 < (((rd_T49 l1 x7_1).f1).length : Int)) = false := decide_eq_false c9
      clear c9
      replace H := Option.bind_eq_some_iff.mp H
      obtain ⟨t245, A500, H⟩ := H
      replace H : (if t245 = true then (cohousingref26_Rings.l0 k2 l1 x5_2 x6_2 (wrap64 (x7_1 + 1)) l0_0 l0_1) else (some false)) = some r := H
      have A50 := mk_ A500
      clear A500
      by_cases c51 : t245 = true
      rotate_left
      ·replace c51 := Bool.eq_false_iff.mpr c51
       subst c51
       have H1 : (some false) = some r := by rw [if_neg (show ¬ (false = true) by decide)] at H; exact H
       clear H
       have H := H1
       clear H1
       obtain rfl := Option.some.inj H
       have p243 : 0 ≤ (x7_1 : Int) := od_
       have q243 : x7_1 < (l1.length : Int) := od_
       obtain ⟨ad243, A243_1, c243_1, e243, hx243_0, hx243_1, hl243_1, hi243_1⟩ := at_T49 HR1.out x7_1 p243 q243
       cases e243
       replace hx243_0 := cb_ HB hx243_0
       replace hx243_1 := cb_ HB hx243_1
       have HR243_1 := mk_ hi243_1
       have HC243_1 := mk_ hl243_1
       clear hi243_1 hl243_1
       replace p243 := eq_true p243
       replace q243 := eq_true q243
       try go_wp2
       have n0_ := mk_ (Kd.R_drew HO_5.out)
       have n1_ := mk_ (Kd.R_drew HO_6.out)
       have n2_ := mk_ (blk_drew BK242.out)
       have n3_ := mk_ (below_drew1 HB.out)
       clear HO_5
       clear HO_6
       clear BK242
       clear HB
       have HO_5 := n0_
       have HO_6 := n1_
       have BK242 := n2_
       have HB := n3_
       clear n0_ n1_ n2_ n3_
       have p244 : 0 ≤ (x7_1 : Int) := od_
       have q244 : x7_1 < (l1.length : Int) := od_
       obtain ⟨ad244, A244_1, c244_1, e244, hx244_0, hx244_1, hl244_1, hi244_1⟩ := at_T49 HR1.out x7_1 p244 q244
       have hw244_1 := hx244_1
       have hw244_0 := hx244_0
       obtain rfl : ad243 = ad244 := (by injection e244)
       replace hx244_0 := cb_ HB hx244_0
       replace hx244_1 := cb_ HB hx244_1
       have HR244_1 := mk_ hi244_1
       have HC244_1 := mk_ hl244_1
       clear hi244_1 hl244_1
       replace p244 := eq_true p244
       replace q244 := eq_true q244
       refine start_ (n := 7) (S := fun w' => w'.cell? ⟨gb242, 0, none⟩ = some (.slice A0_0 l0_0.length c0_0) ∧ w'.cell? ⟨gb242, 1, none⟩ = some (.slice A0_1 l0_1.length c0_1) ∧ w'.cell? (ad243.add ((x7_1).toNat * 2)) = some (.bool ((rd_T49 l1 x7_1).f0)) ∧ w'.cell? ⟨(ad243.add ((x7_1).toNat * 2)).block, (ad243.add ((x7_1).toNat * 2)).off + 1, none⟩ = some (.slice A244_1 ((rd_T49 l1 x7_1).f1).length c244_1)) (ds := []) #[n_, n_, n_, n_, n_, n_, n_] (by kernel_rfl) rfl rfl ⟨(blk_cell BK242.out 0).trans rfl, (blk_cell BK242.out 1).trans rfl, (cb_ HB hw244_0), (cb_ HB hw244_1)⟩ (fun hHeld => ?_)
       generalize wr.drew = w54 at HO_5 HO_6 BK242 HB HR244_1 hx244_0 hx244_1 hHeld ⊢
       refine pv_ 1 69 (w_ 7 2) rfl ?_
       refine pv_ 2 70 (w_ 7 6) rfl ?_
       refine pv_ 3 71 (w_ 7 14) rfl ?_
       refine tb_ 0 68 (w_ 7 15) rfl hHeld (by rintro w' ⟨s0, s1, s2, s3⟩; go_simp; with_reducible rfl) ?_
       refine tb_ 4 72 (w_ 7 31) rfl hHeld (by rintro w' ⟨s0, s1, s2, s3⟩; go_simp; with_reducible rfl) ?_
       refine one_ (i := 5) (N := some 73) (w_ 7 63) rfl rfl (by kernel_rfl) (by decide) (fun K hK => ?_)
       refine goes_ Try.func47 (by kernel_rfl) rfl #[.agg #[.slice A0_0 l0_0.length c0_0, .slice A0_1 l0_1.length c0_1], .agg #[.bool ((rd_T49 l1 x7_1).f0), .slice A244_1 ((rd_T49 l1 x7_1).f1).length c244_1]] (by rfl) rfl rfl (by (try simp only [List.map_toArray, List.map_cons, List.map_nil]); first | done | rfl | (simp only [List.length_drop, List.length_take]; rfl)) ?_
       with_reducible refine (cohousingref26_shape.calls k2 _ _ l0_0 _ _ l0_1 ((rd_T49 l1 x7_1).f0) _ _ ((rd_T49 l1 x7_1).f1) false _ ?side1 ?side2 ?side3 ?side4 ?side5 ?side6 A50.out).mono ?_
       (case side1 => exact cc_ ((Kd.C_below HR0_0.out HB.out)))
       (case side2 => exact HC0_0.out)
       (case side3 => exact cc_ ((Kd.C_below HR0_1.out HB.out)))
       (case side4 => exact HC0_1.out)
       (case side5 => exact cc_ ((Kd.C_below HR244_1.out HB.out)))
       (case side6 => exact HC244_1.out)
       rintro e w55 ⟨rfl, hb⟩
       refine ⟨_, rfl, ?_⟩
       have n0_ := mk_ (Kd.R_below (rr_ HO_5) hb)
       have n1_ := mk_ (Kd.R_below (rr_ HO_6) hb)
       have n2_ := mk_ (blk_below (kk_ BK242) hb)
       have n3_ := mk_ (below_step (bs_ HB GE242.out) hb)
       clear HO_5
       clear HO_6
       clear BK242
       clear HB
       have HO_5 := n0_
       have HO_6 := n1_
       have BK242 := n2_
       have HB := n3_
       clear n0_ n1_ n2_ n3_
       (try clear hb)
       (try clear hb2)
       (try clear hk)
       (try clear hi)
       refine hK.out _ _ ⟨(blk_cell BK242.out 0).trans rfl, (blk_cell BK242.out 1).trans rfl, (cb_ HB hw244_0), (cb_ HB hw244_1)⟩ (fun hHeld => ?_)
       clear hK K
       refine norm_ (a' := ?_) ?_ ?_
       rotate_left
       ·show Act.put _ (some 73) _ = _
        simp only [Act.put, sI_, s0_, sS_, i64_w, i32_w]
        rfl
       refine pv_ 6 11 (w_ 7 127) rfl ?_
       refine done_ (by kernel_rfl) ?_
       try go_wp2
       go_ret
       exact ⟨ew_, bs1_ HB GE242⟩
      subst c51
      have H1 : (cohousingref26_Rings.l0 k2 l1 x5_2 x6_2 (wrap64 (x7_1 + 1)) l0_0 l0_1) = some r := by rw [if_pos rfl] at H; exact H
      clear H
      have H := H1
      clear H1
      have H' := mk_ H
      clear H
      have p243 : 0 ≤ (x7_1 : Int) := od_
      have q243 : x7_1 < (l1.length : Int) := od_
      obtain ⟨ad243, A243_1, c243_1, e243, hx243_0, hx243_1, hl243_1, hi243_1⟩ := at_T49 HR1.out x7_1 p243 q243
      cases e243
      replace hx243_0 := cb_ HB hx243_0
      replace hx243_1 := cb_ HB hx243_1
      have HR243_1 := mk_ hi243_1
      have HC243_1 := mk_ hl243_1
      clear hi243_1 hl243_1
      replace p243 := eq_true p243
      replace q243 := eq_true q243
      try go_wp2
      have n0_ := mk_ (Kd.R_drew HO_5.out)
      have n1_ := mk_ (Kd.R_drew HO_6.out)
      have n2_ := mk_ (blk_drew BK242.out)
      have n3_ := mk_ (below_drew1 HB.out)
      clear HO_5
      clear HO_6
      clear BK242
      clear HB
      have HO_5 := n0_
      have HO_6 := n1_
      have BK242 := n2_
      have HB := n3_
      clear n0_ n1_ n2_ n3_
      have p244 : 0 ≤ (x7_1 : Int) := od_
      have q244 : x7_1 < (l1.length : Int) := od_
      obtain ⟨ad244, A244_1, c244_1, e244, hx244_0, hx244_1, hl244_1, hi244_1⟩ := at_T49 HR1.out x7_1 p244 q244
      have hw244_1 := hx244_1
      have hw244_0 := hx244_0
      obtain rfl : ad243 = ad244 := (by injection e244)
      replace hx244_0 := cb_ HB hx244_0
      replace hx244_1 := cb_ HB hx244_1
      have HR244_1 := mk_ hi244_1
      have HC244_1 := mk_ hl244_1
      clear hi244_1 hl244_1
      replace p244 := eq_true p244
      replace q244 := eq_true q244
      refine start_ (n := 7) (S := fun w' => w'.cell? ⟨gb242, 0, none⟩ = some (.slice A0_0 l0_0.length c0_0) ∧ w'.cell? ⟨gb242, 1, none⟩ = some (.slice A0_1 l0_1.length c0_1) ∧ w'.cell? (ad243.add ((x7_1).toNat * 2)) = some (.bool ((rd_T49 l1 x7_1).f0)) ∧ w'.cell? ⟨(ad243.add ((x7_1).toNat * 2)).block, (ad243.add ((x7_1).toNat * 2)).off + 1, none⟩ = some (.slice A244_1 ((rd_T49 l1 x7_1).f1).length c244_1)) (ds := []) #[n_, n_, n_, n_, n_, n_, n_] (by kernel_rfl) rfl rfl ⟨(blk_cell BK242.out 0).trans rfl, (blk_cell BK242.out 1).trans rfl, (cb_ HB hw244_0), (cb_ HB hw244_1)⟩ (fun hHeld => ?_)
      generalize wr.drew = w52 at HO_5 HO_6 BK242 HB HR244_1 hx244_0 hx244_1 hHeld ⊢
      refine pv_ 1 69 (w_ 7 2) rfl ?_
      refine pv_ 2 70 (w_ 7 6) rfl ?_
      refine pv_ 3 71 (w_ 7 14) rfl ?_
      refine tb_ 0 68 (w_ 7 15) rfl hHeld (by rintro w' ⟨s0, s1, s2, s3⟩; go_simp; with_reducible rfl) ?_
      refine tb_ 4 72 (w_ 7 31) rfl hHeld (by rintro w' ⟨s0, s1, s2, s3⟩; go_simp; with_reducible rfl) ?_
      refine one_ (i := 5) (N := some 73) (w_ 7 63) rfl rfl (by kernel_rfl) (by decide) (fun K hK => ?_)
      refine goes_ Try.func47 (by kernel_rfl) rfl #[.agg #[.slice A0_0 l0_0.length c0_0, .slice A0_1 l0_1.length c0_1], .agg #[.bool ((rd_T49 l1 x7_1).f0), .slice A244_1 ((rd_T49 l1 x7_1).f1).length c244_1]] (by rfl) rfl rfl (by (try simp only [List.map_toArray, List.map_cons, List.map_nil]); first | done | rfl | (simp only [List.length_drop, List.length_take]; rfl)) ?_
      with_reducible refine (cohousingref26_shape.calls k2 _ _ l0_0 _ _ l0_1 ((rd_T49 l1 x7_1).f0) _ _ ((rd_T49 l1 x7_1).f1) true _ ?side1 ?side2 ?side3 ?side4 ?side5 ?side6 A50.out).mono ?_
      (case side1 => exact cc_ ((Kd.C_below HR0_0.out HB.out)))
      (case side2 => exact HC0_0.out)
      (case side3 => exact cc_ ((Kd.C_below HR0_1.out HB.out)))
      (case side4 => exact HC0_1.out)
      (case side5 => exact cc_ ((Kd.C_below HR244_1.out HB.out)))
      (case side6 => exact HC244_1.out)
      rintro e w53 ⟨rfl, hb⟩
      refine ⟨_, rfl, ?_⟩
      have n0_ := mk_ (Kd.R_below (rr_ HO_5) hb)
      have n1_ := mk_ (Kd.R_below (rr_ HO_6) hb)
      have n2_ := mk_ (blk_below (kk_ BK242) hb)
      have n3_ := mk_ (below_step (bs_ HB GE242.out) hb)
      clear HO_5
      clear HO_6
      clear BK242
      clear HB
      have HO_5 := n0_
      have HO_6 := n1_
      have BK242 := n2_
      have HB := n3_
      clear n0_ n1_ n2_ n3_
      (try clear hb)
      (try clear hb2)
      (try clear hk)
      (try clear hi)
      refine hK.out _ _ ⟨(blk_cell BK242.out 0).trans rfl, (blk_cell BK242.out 1).trans rfl, (cb_ HB hw244_0), (cb_ HB hw244_1)⟩ (fun hHeld => ?_)
      clear hK K
      refine norm_ (a' := ?_) ?_ ?_
      rotate_left
      ·show Act.put _ (some 73) _ = _
       simp only [Act.put, sI_, s0_, sS_, i64_w, i32_w]
       rfl
      refine pv_ 6 11 (w_ 7 127) rfl ?_
      refine done_ (by kernel_rfl) ?_
      try go_wp2
      go_roundg k2
      case measure => have := HK1.out; have := HK2.out; omega
      case rel => exact ⟨(x5_2), (x6_2), (wrap64 (x7_1 + 1)), sd_, H', ⟨by have := HK1.out; have := HK2.out; omega⟩, ⟨rr_ HO_5⟩, ⟨rr_ HO_6⟩, ⟨kk_ BK242⟩, ⟨bs1_ HB GE242⟩⟩
     rw [if_pos c9] at H
     have c9b0 : decide (x8_2 < (((rd_T49 l1 x7_1).f1).length : Int)) = true := decide_eq_true c9
     clear c9
     by_cases c10 : 0 ≤ x8_2
     rotate_left
     ·rw [if_neg c10] at H
      exact absurd H (by simp)
     rw [if_pos c10] at H
     have c10b0 : decide (0 ≤ x8_2) = true := decide_eq_true c10
     clear c10
     replace H := Option.bind_eq_some_iff.mp H
     obtain ⟨t249, A110, H⟩ := H
     replace H : (if t249 = true then ((cohousingref23_In.f k2 x5_2 ((rd_T51 ((rd_T49 l1 x7_1).f1) x8_2).f0)).bind fun t250 => (if t250 ≥ 0 then (some false) else ((cohousingref23_In.f k2 x6_2 ((rd_T51 ((rd_T49 l1 x7_1).f1) x8_2).f2)).bind fun t251 => (if t251 ≥ 0 then (some false) else (if x5_2.length < 17592186044416 then (if x6_2.length < 17592186044416 then (cohousingref26_Rings.l1 k2 l1 (x5_2 ++ [(rd_T51 ((rd_T49 l1 x7_1).f1) x8_2).f0]) (x6_2 ++ [(rd_T51 ((rd_T49 l1 x7_1).f1) x8_2).f2]) x7_1 (wrap64 (x8_2 + 1)) l0_0 l0_1) else (none)) else (none)))))) else (some false)) = some r := H
     have A11 := mk_ A110
     clear A110
     by_cases c12 : t249 = true
     rotate_left
     ·replace c12 := Bool.eq_false_iff.mpr c12
      subst c12
      have H1 : (some false) = some r := by rw [if_neg (show ¬ (false = true) by decide)] at H; exact H
      clear H
      have H := H1
      clear H1
      obtain rfl := Option.some.inj H
      have p243 : 0 ≤ (x7_1 : Int) := od_
      have q243 : x7_1 < (l1.length : Int) := od_
      obtain ⟨ad243, A243_1, c243_1, e243, hx243_0, hx243_1, hl243_1, hi243_1⟩ := at_T49 HR1.out x7_1 p243 q243
      cases e243
      replace hx243_0 := cb_ HB hx243_0
      replace hx243_1 := cb_ HB hx243_1
      have HR243_1 := mk_ hi243_1
      have HC243_1 := mk_ hl243_1
      clear hi243_1 hl243_1
      replace p243 := eq_true p243
      replace q243 := eq_true q243
      have p246 : 0 ≤ (x7_1 : Int) := od_
      have q246 : x7_1 < (l1.length : Int) := od_
      obtain ⟨ad246, A246_1, c246_1, e246, hx246_0, hx246_1, hl246_1, hi246_1⟩ := at_T49 HR1.out x7_1 p246 q246
      obtain rfl : ad243 = ad246 := (by injection e246)
      replace hx246_0 := cb_ HB hx246_0
      replace hx246_1 := cb_ HB hx246_1
      have HR246_1 := mk_ hi246_1
      have HC246_1 := mk_ hl246_1
      clear hi246_1 hl246_1
      replace p246 := eq_true p246
      replace q246 := eq_true q246
      have ea_ := Option.some.inj (hx243_1.symm.trans hx246_1)
      injection ea_ with ea_ en_ ec_
      subst ea_
      subst ec_
      clear en_
      have p247 : 0 ≤ (x8_2 : Int) := od_
      have q247 : x8_2 < (((rd_T49 l1 x7_1).f1).length : Int) := od_
      obtain ⟨ad247, e247, hx247_0, hx247_1, hx247_2⟩ := at_T51 HR246_1.out x8_2 p247 q247
      cases e247
      replace hx247_0 := cb_ HB hx247_0
      replace hx247_1 := cb_ HB hx247_1
      replace hx247_2 := cb_ HB hx247_2
      replace p247 := eq_true p247
      replace q247 := eq_true q247
      go_wp2_with (first | ((with_reducible refine gate_dst (N := 9) rfl ?_); refine box_event ?hg (N := 9) ?hd (cs := #[.int .i64 0, .int .i64 0, .int .i64 0]) (t := 51) ?hr ?_; (case hd => rfl); (case hg => rfl); (case hr => first | (go_simp; done) | (go_simp; rfl)); intro gb248 hg w45 hbox hb; have n0_ := mk_ (Kd.R_below (rr_ HO_5) hb); have n1_ := mk_ (Kd.R_below (rr_ HO_6) hb); have n2_ := mk_ (blk_below (kk_ BK242) hb); have n3_ := mk_ (below_step (bs_ HB GE242.out) hb); have n4_ := mk_ (hbox); have n5_ := mk_ (bz_ hg (bs_ HB GE242.out)); have n6_ := mk_ (bz_ hg (bs_ HB GE242.out)); have n7_ := mk_ (bl_ hg (kk_ BK242)); have n8_ := mk_ (bg_ hg (kk_ BK242)); clear HO_5 HO_6 BK242 HB; revert n0_ n1_ n2_ n3_ n4_ n5_ n6_ n7_ n8_; intro HO_5 HO_6 BK242 HB BK248 GW248 GE248 NB242_248 NB248_242; clear hb hbox hg; have hnb46 := NB248_242.out; have hnc46 := NB242_248.out; have hcz47_0 := bc0_ BK248.out; have hcz47_1 := bc1_ BK248.out; have hcz47_2 := bc2_ BK248.out; have hfz47_0 := blk_frozen BK248.out 0; have hfz47_1 := blk_frozen BK248.out 1; have hfz47_2 := blk_frozen BK248.out 2; have hcz48_0 := bc0_ BK242.out; have hcz48_1 := bc1_ BK242.out; have hfz48_0 := blk_frozen BK242.out 0; have hfz48_1 := blk_frozen BK242.out 1) | ((with_reducible refine gate_callee (f := 41) rfl ?_); refine gl_ (some 41) Try.func41 #[.agg #[.slice A0_0 l0_0.length c0_0, .slice A0_1 l0_1.length c0_1], .agg #[.int .i64 ((rd_T51 ((rd_T49 l1 x7_1).f1) x8_2).f0), .int .i64 ((rd_T51 ((rd_T49 l1 x7_1).f1) x8_2).f1), .int .i64 ((rd_T51 ((rd_T49 l1 x7_1).f1) x8_2).f2)]] ?_; (with_reducible refine (cohousingref26_move.calls k2 _ _ l0_0 _ _ l0_1 ((rd_T51 ((rd_T49 l1 x7_1).f1) x8_2).f0) ((rd_T51 ((rd_T49 l1 x7_1).f1) x8_2).f1) ((rd_T51 ((rd_T49 l1 x7_1).f1) x8_2).f2) false _ ?side1 ?side2 ?side3 ?side4 A11.out).mono ?_); (case side1 => exact Kd.C_below HR0_0.out (bs2_ HB GE242 GE248)); (case side2 => exact HC0_0.out); (case side3 => exact Kd.C_below HR0_1.out (bs2_ HB GE242 GE248)); (case side4 => exact HC0_1.out); rintro e w49 ⟨rfl, hb⟩; refine ⟨_, rfl, ?_⟩; have n0_ := mk_ (Kd.R_below (by (with_reducible repeat (first | apply Kd.R_alloc | apply Kd.R_drewN | apply Kd.R_drew)); exact (Kd.R_mono (Kd.R_far (p := ⟨gb248, 2, none⟩) (Kd.R_far (p := ⟨gb248, 1, none⟩) (Kd.R_far (p := ⟨gb248, 0, none⟩) (Kd.R_types HO_5.out BK248.out (by decide)) (fun _ hk => hk.2) (.int .i64 ((rd_T51 ((rd_T49 l1 x7_1).f1) x8_2).f0))) (fun _ hk => hk.2) (.int .i64 ((rd_T51 ((rd_T49 l1 x7_1).f1) x8_2).f1))) (fun _ hk => hk.2) (.int .i64 ((rd_T51 ((rd_T49 l1 x7_1).f1) x8_2).f2))) (fun _ h_ => h_.1))) hb); have n1_ := mk_ (Kd.R_below (by (with_reducible repeat (first | apply Kd.R_alloc | apply Kd.R_drewN | apply Kd.R_drew)); exact (Kd.R_mono (Kd.R_far (p := ⟨gb248, 2, none⟩) (Kd.R_far (p := ⟨gb248, 1, none⟩) (Kd.R_far (p := ⟨gb248, 0, none⟩) (Kd.R_types HO_6.out BK248.out (by decide)) (fun _ hk => hk.2) (.int .i64 ((rd_T51 ((rd_T49 l1 x7_1).f1) x8_2).f0))) (fun _ hk => hk.2) (.int .i64 ((rd_T51 ((rd_T49 l1 x7_1).f1) x8_2).f1))) (fun _ hk => hk.2) (.int .i64 ((rd_T51 ((rd_T49 l1 x7_1).f1) x8_2).f2))) (fun _ h_ => h_.1))) hb); have n2_ := mk_ (blk_below (g := gb242) (o := .cells #[.slice A0_0 l0_0.length c0_0, .slice A0_1 l0_1.length c0_1] 25 (0, 0)) (by (with_reducible repeat (first | refine blk_drewN ?_ _ | refine blk_drew ?_ | refine blk_alloc ?_ _)); refine blk_far ?_ NB242_248.out _; (with_reducible repeat (first | refine blk_drewN ?_ _ | refine blk_drew ?_ | refine blk_alloc ?_ _)); refine blk_far ?_ NB242_248.out _; (with_reducible repeat (first | refine blk_drewN ?_ _ | refine blk_drew ?_ | refine blk_alloc ?_ _)); refine blk_far ?_ NB242_248.out _; (with_reducible repeat (first | refine blk_drewN ?_ _ | refine blk_drew ?_ | refine blk_alloc ?_ _)); exact BK242.out) hb); have n3_ := mk_ (blk_below (g := gb248) (o := .cells #[.int .i64 ((rd_T51 ((rd_T49 l1 x7_1).f1) x8_2).f0), .int .i64 ((rd_T51 ((rd_T49 l1 x7_1).f1) x8_2).f1), .int .i64 ((rd_T51 ((rd_T49 l1 x7_1).f1) x8_2).f2)] 51 (0, 0)) (by (with_reducible repeat (first | refine blk_drewN ?_ _ | refine blk_drew ?_ | refine blk_alloc ?_ _)); refine blk_put (cs := #[.int .i64 ((rd_T51 ((rd_T49 l1 x7_1).f1) x8_2).f0), .int .i64 ((rd_T51 ((rd_T49 l1 x7_1).f1) x8_2).f1), .int .i64 0]) ?_ 2 _ rfl; (with_reducible repeat (first | refine blk_drewN ?_ _ | refine blk_drew ?_ | refine blk_alloc ?_ _)); refine blk_put (cs := #[.int .i64 ((rd_T51 ((rd_T49 l1 x7_1).f1) x8_2).f0), .int .i64 0, .int .i64 0]) ?_ 1 _ rfl; (with_reducible repeat (first | refine blk_drewN ?_ _ | refine blk_drew ?_ | refine blk_alloc ?_ _)); refine blk_put (cs := #[.int .i64 0, .int .i64 0, .int .i64 0]) ?_ 0 _ rfl; (with_reducible repeat (first | refine blk_drewN ?_ _ | refine blk_drew ?_ | refine blk_alloc ?_ _)); exact BK248.out) hb); have n4_ := mk_ (below_step (bs2_ HB GE242 GE248) hb); clear HO_5 HO_6 BK242 BK248 HB; revert n0_ n1_ n2_ n3_ n4_; intro HO_5 HO_6 BK242 BK248 HB; (try clear hb); (try clear hb2); (try clear hk); (try clear hi)))
      go_ret
      exact ⟨ew_, bs2_ HB GE242 GE248⟩
     subst c12
     have H1 : ((cohousingref23_In.f k2 x5_2 ((rd_T51 ((rd_T49 l1 x7_1).f1) x8_2).f0)).bind fun t250 => (if t250 ≥ 0 then (some false) else ((cohousingref23_In.f k2 x6_2 ((rd_T51 ((rd_T49 l1 x7_1).f1) x8_2).f2)).bind fun t251 => (if t251 ≥ 0 then (some false) else (if x5_2.length < 17592186044416 then (if x6_2.length < 17592186044416 then (cohousingref26_Rings.l1 k2 l1 (x5_2 ++ [(rd_T51 ((rd_T49 l1 x7_1).f1) x8_2).f0]) (x6_2 ++ [(rd_T51 ((rd_T49 l1 x7_1).f1) x8_2).f2]) x7_1 (wrap64 (x8_2 + 1)) l0_0 l0_1) else (none)) else (none)))))) = some r := by rw [if_pos rfl] at H; exact H
     clear H
     have H := H1
     clear H1
     replace H := Option.bind_eq_some_iff.mp H
     obtain ⟨t250, A130, H⟩ := H
     replace H : (if t250 ≥ 0 then (some false) else ((cohousingref23_In.f k2 x6_2 ((rd_T51 ((rd_T49 l1 x7_1).f1) x8_2).f2)).bind fun t251 => (if t251 ≥ 0 then (some false) else (if x5_2.length < 17592186044416 then (if x6_2.length < 17592186044416 then (cohousingref26_Rings.l1 k2 l1 (x5_2 ++ [(rd_T51 ((rd_T49 l1 x7_1).f1) x8_2).f0]) (x6_2 ++ [(rd_T51 ((rd_T49 l1 x7_1).f1) x8_2).f2]) x7_1 (wrap64 (x8_2 + 1)) l0_0 l0_1) else (none)) else (none))))) = some r := H
     have A13 := mk_ A130
     clear A130
     by_cases c14 : t250 ≥ 0
     ·rw [if_pos c14] at H
      have c14b0 : decide (0 ≤ t250) = true := decide_eq_true c14
      clear c14
      obtain rfl := Option.some.inj H
      have p243 : 0 ≤ (x7_1 : Int) := od_
      have q243 : x7_1 < (l1.length : Int) := od_
      obtain ⟨ad243, A243_1, c243_1, e243, hx243_0, hx243_1, hl243_1, hi243_1⟩ := at_T49 HR1.out x7_1 p243 q243
      cases e243
      replace hx243_0 := cb_ HB hx243_0
      replace hx243_1 := cb_ HB hx243_1
      have HR243_1 := mk_ hi243_1
      have HC243_1 := mk_ hl243_1
      clear hi243_1 hl243_1
      replace p243 := eq_true p243
      replace q243 := eq_true q243
      have p246 : 0 ≤ (x7_1 : Int) := od_
      have q246 : x7_1 < (l1.length : Int) := od_
      obtain ⟨ad246, A246_1, c246_1, e246, hx246_0, hx246_1, hl246_1, hi246_1⟩ := at_T49 HR1.out x7_1 p246 q246
      obtain rfl : ad243 = ad246 := (by injection e246)
      replace hx246_0 := cb_ HB hx246_0
      replace hx246_1 := cb_ HB hx246_1
      have HR246_1 := mk_ hi246_1
      have HC246_1 := mk_ hl246_1
      clear hi246_1 hl246_1
      replace p246 := eq_true p246
      replace q246 := eq_true q246
      have ea_ := Option.some.inj (hx243_1.symm.trans hx246_1)
      injection ea_ with ea_ en_ ec_
      subst ea_
      subst ec_
      clear en_
      have p247 : 0 ≤ (x8_2 : Int) := od_
      have q247 : x8_2 < (((rd_T49 l1 x7_1).f1).length : Int) := od_
      obtain ⟨ad247, e247, hx247_0, hx247_1, hx247_2⟩ := at_T51 HR246_1.out x8_2 p247 q247
      cases e247
      replace hx247_0 := cb_ HB hx247_0
      replace hx247_1 := cb_ HB hx247_1
      replace hx247_2 := cb_ HB hx247_2
      replace p247 := eq_true p247
      replace q247 := eq_true q247
      go_wp2_with (first | ((with_reducible refine gate_dst (N := 9) rfl ?_); refine box_event ?hg (N := 9) ?hd (cs := #[.int .i64 0, .int .i64 0, .int .i64 0]) (t := 51) ?hr ?_; (case hd => rfl); (case hg => rfl); (case hr => first | (go_simp; done) | (go_simp; rfl)); intro gb248 hg w15 hbox hb; have n0_ := mk_ (Kd.R_below (rr_ HO_5) hb); have n1_ := mk_ (Kd.R_below (rr_ HO_6) hb); have n2_ := mk_ (blk_below (kk_ BK242) hb); have n3_ := mk_ (below_step (bs_ HB GE242.out) hb); have n4_ := mk_ (hbox); have n5_ := mk_ (bz_ hg (bs_ HB GE242.out)); have n6_ := mk_ (bz_ hg (bs_ HB GE242.out)); have n7_ := mk_ (bl_ hg (kk_ BK242)); have n8_ := mk_ (bg_ hg (kk_ BK242)); clear HO_5 HO_6 BK242 HB; revert n0_ n1_ n2_ n3_ n4_ n5_ n6_ n7_ n8_; intro HO_5 HO_6 BK242 HB BK248 GW248 GE248 NB242_248 NB248_242; clear hb hbox hg; have hnb16 := NB248_242.out; have hnc16 := NB242_248.out; have hcz17_0 := bc0_ BK248.out; have hcz17_1 := bc1_ BK248.out; have hcz17_2 := bc2_ BK248.out; have hfz17_0 := blk_frozen BK248.out 0; have hfz17_1 := blk_frozen BK248.out 1; have hfz17_2 := blk_frozen BK248.out 2; have hcz18_0 := bc0_ BK242.out; have hcz18_1 := bc1_ BK242.out; have hfz18_0 := blk_frozen BK242.out 0; have hfz18_1 := blk_frozen BK242.out 1) | ((with_reducible refine gate_callee (f := 41) rfl ?_); refine gl_ (some 41) Try.func41 #[.agg #[.slice A0_0 l0_0.length c0_0, .slice A0_1 l0_1.length c0_1], .agg #[.int .i64 ((rd_T51 ((rd_T49 l1 x7_1).f1) x8_2).f0), .int .i64 ((rd_T51 ((rd_T49 l1 x7_1).f1) x8_2).f1), .int .i64 ((rd_T51 ((rd_T49 l1 x7_1).f1) x8_2).f2)]] ?_; (with_reducible refine (cohousingref26_move.calls k2 _ _ l0_0 _ _ l0_1 ((rd_T51 ((rd_T49 l1 x7_1).f1) x8_2).f0) ((rd_T51 ((rd_T49 l1 x7_1).f1) x8_2).f1) ((rd_T51 ((rd_T49 l1 x7_1).f1) x8_2).f2) true _ ?side1 ?side2 ?side3 ?side4 A11.out).mono ?_); (case side1 => exact Kd.C_below HR0_0.out (bs2_ HB GE242 GE248)); (case side2 => exact HC0_0.out); (case side3 => exact Kd.C_below HR0_1.out (bs2_ HB GE242 GE248)); (case side4 => exact HC0_1.out); rintro e w19 ⟨rfl, hb⟩; refine ⟨_, rfl, ?_⟩; have n0_ := mk_ (Kd.R_below (by (with_reducible repeat (first | apply Kd.R_alloc | apply Kd.R_drewN | apply Kd.R_drew)); exact (Kd.R_mono (Kd.R_far (p := ⟨gb248, 2, none⟩) (Kd.R_far (p := ⟨gb248, 1, none⟩) (Kd.R_far (p := ⟨gb248, 0, none⟩) (Kd.R_types HO_5.out BK248.out (by decide)) (fun _ hk => hk.2) (.int .i64 ((rd_T51 ((rd_T49 l1 x7_1).f1) x8_2).f0))) (fun _ hk => hk.2) (.int .i64 ((rd_T51 ((rd_T49 l1 x7_1).f1) x8_2).f1))) (fun _ hk => hk.2) (.int .i64 ((rd_T51 ((rd_T49 l1 x7_1).f1) x8_2).f2))) (fun _ h_ => h_.1))) hb); have n1_ := mk_ (Kd.R_below (by (with_reducible repeat (first | apply Kd.R_alloc | apply Kd.R_drewN | apply Kd.R_drew)); exact (Kd.R_mono (Kd.R_far (p := ⟨gb248, 2, none⟩) (Kd.R_far (p := ⟨gb248, 1, none⟩) (Kd.R_far (p := ⟨gb248, 0, none⟩) (Kd.R_types HO_6.out BK248.out (by decide)) (fun _ hk => hk.2) (.int .i64 ((rd_T51 ((rd_T49 l1 x7_1).f1) x8_2).f0))) (fun _ hk => hk.2) (.int .i64 ((rd_T51 ((rd_T49 l1 x7_1).f1) x8_2).f1))) (fun _ hk => hk.2) (.int .i64 ((rd_T51 ((rd_T49 l1 x7_1).f1) x8_2).f2))) (fun _ h_ => h_.1))) hb); have n2_ := mk_ (blk_below (g := gb242) (o := .cells #[.slice A0_0 l0_0.length c0_0, .slice A0_1 l0_1.length c0_1] 25 (0, 0)) (by (with_reducible repeat (first | refine blk_drewN ?_ _ | refine blk_drew ?_ | refine blk_alloc ?_ _)); refine blk_far ?_ NB242_248.out _; (with_reducible repeat (first | refine blk_drewN ?_ _ | refine blk_drew ?_ | refine blk_alloc ?_ _)); refine blk_far ?_ NB242_248.out _; (with_reducible repeat (first | refine blk_drewN ?_ _ | refine blk_drew ?_ | refine blk_alloc ?_ _)); refine blk_far ?_ NB242_248.out _; (with_reducible repeat (first | refine blk_drewN ?_ _ | refine blk_drew ?_ | refine blk_alloc ?_ _)); exact BK242.out) hb); have n3_ := mk_ (blk_below (g := gb248) (o := .cells #[.int .i64 ((rd_T51 ((rd_T49 l1 x7_1).f1) x8_2).f0), .int .i64 ((rd_T51 ((rd_T49 l1 x7_1).f1) x8_2).f1), .int .i64 ((rd_T51 ((rd_T49 l1 x7_1).f1) x8_2).f2)] 51 (0, 0)) (by (with_reducible repeat (first | refine blk_drewN ?_ _ | refine blk_drew ?_ | refine blk_alloc ?_ _)); refine blk_put (cs := #[.int .i64 ((rd_T51 ((rd_T49 l1 x7_1).f1) x8_2).f0), .int .i64 ((rd_T51 ((rd_T49 l1 x7_1).f1) x8_2).f1), .int .i64 0]) ?_ 2 _ rfl; (with_reducible repeat (first | refine blk_drewN ?_ _ | refine blk_drew ?_ | refine blk_alloc ?_ _)); refine blk_put (cs := #[.int .i64 ((rd_T51 ((rd_T49 l1 x7_1).f1) x8_2).f0), .int .i64 0, .int .i64 0]) ?_ 1 _ rfl; (with_reducible repeat (first | refine blk_drewN ?_ _ | refine blk_drew ?_ | refine blk_alloc ?_ _)); refine blk_put (cs := #[.int .i64 0, .int .i64 0, .int .i64 0]) ?_ 0 _ rfl; (with_reducible repeat (first | refine blk_drewN ?_ _ | refine blk_drew ?_ | refine blk_alloc ?_ _)); exact BK248.out) hb); have n4_ := mk_ (below_step (bs2_ HB GE242 GE248) hb); clear HO_5 HO_6 BK242 BK248 HB; revert n0_ n1_ n2_ n3_ n4_; intro HO_5 HO_6 BK242 BK248 HB; (try clear hb); (try clear hb2); (try clear hk); (try clear hi); have hcz20_0 := bc0_ BK248.out; have hcz20_1 := bc1_ BK248.out; have hcz20_2 := bc2_ BK248.out; have hfz20_0 := blk_frozen BK248.out 0; have hfz20_1 := blk_frozen BK248.out 1; have hfz20_2 := blk_frozen BK248.out 2; obtain ⟨Ao21, co21, eo21⟩ := Kd.R_slice HO_5.out; subst eo21) | (go_at_call 24; (with_reducible refine (cohousingref23_In.calls k2 _ _ x5_2 ((rd_T51 ((rd_T49 l1 x7_1).f1) x8_2).f0) t250 _ ?side1 ?side2 A13.out).mono ?_); (case side1 => exact cc_ ((Kd.R_reads' HO_5.out).2.2)); (case side2 => exact (Kd.R_reads' HO_5.out).2.1); rintro e w' ⟨rfl, ⟨nd, rfl⟩⟩))
      go_ret
      exact ⟨ew_, bs2_ HB GE242 GE248⟩
     rw [if_neg c14] at H
     have c14b0 : decide (0 ≤ t250) = false := decide_eq_false c14
     clear c14
     replace H := Option.bind_eq_some_iff.mp H
     obtain ⟨t251, A220, H⟩ := H
     replace H : (if t251 ≥ 0 then (some false) else (if x5_2.length < 17592186044416 then (if x6_2.length < 17592186044416 then (cohousingref26_Rings.l1 k2 l1 (x5_2 ++ [(rd_T51 ((rd_T49 l1 x7_1).f1) x8_2).f0]) (x6_2 ++ [(rd_T51 ((rd_T49 l1 x7_1).f1) x8_2).f2]) x7_1 (wrap64 (x8_2 + 1)) l0_0 l0_1) else (none)) else (none))) = some r := H
     have A22 := mk_ A220
     clear A220
     by_cases c23 : t251 ≥ 0
     ·rw [if_pos c23] at H
      have c23b0 : decide (0 ≤ t251) = true := decide_eq_true c23
      clear c23
      obtain rfl := Option.some.inj H
      have p243 : 0 ≤ (x7_1 : Int) := od_
      have q243 : x7_1 < (l1.length : Int) := od_
      obtain ⟨ad243, A243_1, c243_1, e243, hx243_0, hx243_1, hl243_1, hi243_1⟩ := at_T49 HR1.out x7_1 p243 q243
      cases e243
      replace hx243_0 := cb_ HB hx243_0
      replace hx243_1 := cb_ HB hx243_1
      have HR243_1 := mk_ hi243_1
      have HC243_1 := mk_ hl243_1
      clear hi243_1 hl243_1
      replace p243 := eq_true p243
      replace q243 := eq_true q243
      have p246 : 0 ≤ (x7_1 : Int) := od_
      have q246 : x7_1 < (l1.length : Int) := od_
      obtain ⟨ad246, A246_1, c246_1, e246, hx246_0, hx246_1, hl246_1, hi246_1⟩ := at_T49 HR1.out x7_1 p246 q246
      obtain rfl : ad243 = ad246 := (by injection e246)
      replace hx246_0 := cb_ HB hx246_0
      replace hx246_1 := cb_ HB hx246_1
      have HR246_1 := mk_ hi246_1
      have HC246_1 := mk_ hl246_1
      clear hi246_1 hl246_1
      replace p246 := eq_true p246
      replace q246 := eq_true q246
      have ea_ := Option.some.inj (hx243_1.symm.trans hx246_1)
      injection ea_ with ea_ en_ ec_
      subst ea_
      subst ec_
      clear en_
      have p247 : 0 ≤ (x8_2 : Int) := od_
      have q247 : x8_2 < (((rd_T49 l1 x7_1).f1).length : Int) := od_
      obtain ⟨ad247, e247, hx247_0, hx247_1, hx247_2⟩ := at_T51 HR246_1.out x8_2 p247 q247
      cases e247
      replace hx247_0 := cb_ HB hx247_0
      replace hx247_1 := cb_ HB hx247_1
      replace hx247_2 := cb_ HB hx247_2
      replace p247 := eq_true p247
      replace q247 := eq_true q247
      go_wp2_with (first | ((with_reducible refine gate_dst (N := 9) rfl ?_); refine box_event ?hg (N := 9) ?hd (cs := #[.int .i64 0, .int .i64 0, .int .i64 0]) (t := 51) ?hr ?_; (case hd => rfl); (case hg => rfl); (case hr => first | (go_simp; done) | (go_simp; rfl)); intro gb248 hg w24 hbox hb; have n0_ := mk_ (Kd.R_below (rr_ HO_5) hb); have n1_ := mk_ (Kd.R_below (rr_ HO_6) hb); have n2_ := mk_ (blk_below (kk_ BK242) hb); have n3_ := mk_ (below_step (bs_ HB GE242.out) hb); have n4_ := mk_ (hbox); have n5_ := mk_ (bz_ hg (bs_ HB GE242.out)); have n6_ := mk_ (bz_ hg (bs_ HB GE242.out)); have n7_ := mk_ (bl_ hg (kk_ BK242)); have n8_ := mk_ (bg_ hg (kk_ BK242)); clear HO_5 HO_6 BK242 HB; revert n0_ n1_ n2_ n3_ n4_ n5_ n6_ n7_ n8_; intro HO_5 HO_6 BK242 HB BK248 GW248 GE248 NB242_248 NB248_242; clear hb hbox hg; have hnb25 := NB248_242.out; have hnc25 := NB242_248.out; have hcz26_0 := bc0_ BK248.out; have hcz26_1 := bc1_ BK248.out; have hcz26_2 := bc2_ BK248.out; have hfz26_0 := blk_frozen BK248.out 0; have hfz26_1 := blk_frozen BK248.out 1; have hfz26_2 := blk_frozen BK248.out 2; have hcz27_0 := bc0_ BK242.out; have hcz27_1 := bc1_ BK242.out; have hfz27_0 := blk_frozen BK242.out 0; have hfz27_1 := blk_frozen BK242.out 1) | ((with_reducible refine gate_callee (f := 41) rfl ?_); refine gl_ (some 41) Try.func41 #[.agg #[.slice A0_0 l0_0.length c0_0, .slice A0_1 l0_1.length c0_1], .agg #[.int .i64 ((rd_T51 ((rd_T49 l1 x7_1).f1) x8_2).f0), .int .i64 ((rd_T51 ((rd_T49 l1 x7_1).f1) x8_2).f1), .int .i64 ((rd_T51 ((rd_T49 l1 x7_1).f1) x8_2).f2)]] ?_; (with_reducible refine (cohousingref26_move.calls k2 _ _ l0_0 _ _ l0_1 ((rd_T51 ((rd_T49 l1 x7_1).f1) x8_2).f0) ((rd_T51 ((rd_T49 l1 x7_1).f1) x8_2).f1) ((rd_T51 ((rd_T49 l1 x7_1).f1) x8_2).f2) true _ ?side1 ?side2 ?side3 ?side4 A11.out).mono ?_); (case side1 => exact Kd.C_below HR0_0.out (bs2_ HB GE242 GE248)); (case side2 => exact HC0_0.out); (case side3 => exact Kd.C_below HR0_1.out (bs2_ HB GE242 GE248)); (case side4 => exact HC0_1.out); rintro e w28 ⟨rfl, hb⟩; refine ⟨_, rfl, ?_⟩; have n0_ := mk_ (Kd.R_below (by (with_reducible repeat (first | apply Kd.R_alloc | apply Kd.R_drewN | apply Kd.R_drew)); exact (Kd.R_mono (Kd.R_far (p := ⟨gb248, 2, none⟩) (Kd.R_far (p := ⟨gb248, 1, none⟩) (Kd.R_far (p := ⟨gb248, 0, none⟩) (Kd.R_types HO_5.out BK248.out (by decide)) (fun _ hk => hk.2) (.int .i64 ((rd_T51 ((rd_T49 l1 x7_1).f1) x8_2).f0))) (fun _ hk => hk.2) (.int .i64 ((rd_T51 ((rd_T49 l1 x7_1).f1) x8_2).f1))) (fun _ hk => hk.2) (.int .i64 ((rd_T51 ((rd_T49 l1 x7_1).f1) x8_2).f2))) (fun _ h_ => h_.1))) hb); have n1_ := mk_ (Kd.R_below (by (with_reducible repeat (first | apply Kd.R_alloc | apply Kd.R_drewN | apply Kd.R_drew)); exact (Kd.R_mono (Kd.R_far (p := ⟨gb248, 2, none⟩) (Kd.R_far (p := ⟨gb248, 1, none⟩) (Kd.R_far (p := ⟨gb248, 0, none⟩) (Kd.R_types HO_6.out BK248.out (by decide)) (fun _ hk => hk.2) (.int .i64 ((rd_T51 ((rd_T49 l1 x7_1).f1) x8_2).f0))) (fun _ hk => hk.2) (.int .i64 ((rd_T51 ((rd_T49 l1 x7_1).f1) x8_2).f1))) (fun _ hk => hk.2) (.int .i64 ((rd_T51 ((rd_T49 l1 x7_1).f1) x8_2).f2))) (fun _ h_ => h_.1))) hb); have n2_ := mk_ (blk_below (g := gb242) (o := .cells #[.slice A0_0 l0_0.length c0_0, .slice A0_1 l0_1.length c0_1] 25 (0, 0)) (by (with_reducible repeat (first | refine blk_drewN ?_ _ | refine blk_drew ?_ | refine blk_alloc ?_ _)); refine blk_far ?_ NB242_248.out _; (with_reducible repeat (first | refine blk_drewN ?_ _ | refine blk_drew ?_ | refine blk_alloc ?_ _)); refine blk_far ?_ NB242_248.out _; (with_reducible repeat (first | refine blk_drewN ?_ _ | refine blk_drew ?_ | refine blk_alloc ?_ _)); refine blk_far ?_ NB242_248.out _; (with_reducible repeat (first | refine blk_drewN ?_ _ | refine blk_drew ?_ | refine blk_alloc ?_ _)); exact BK242.out) hb); have n3_ := mk_ (blk_below (g := gb248) (o := .cells #[.int .i64 ((rd_T51 ((rd_T49 l1 x7_1).f1) x8_2).f0), .int .i64 ((rd_T51 ((rd_T49 l1 x7_1).f1) x8_2).f1), .int .i64 ((rd_T51 ((rd_T49 l1 x7_1).f1) x8_2).f2)] 51 (0, 0)) (by (with_reducible repeat (first | refine blk_drewN ?_ _ | refine blk_drew ?_ | refine blk_alloc ?_ _)); refine blk_put (cs := #[.int .i64 ((rd_T51 ((rd_T49 l1 x7_1).f1) x8_2).f0), .int .i64 ((rd_T51 ((rd_T49 l1 x7_1).f1) x8_2).f1), .int .i64 0]) ?_ 2 _ rfl; (with_reducible repeat (first | refine blk_drewN ?_ _ | refine blk_drew ?_ | refine blk_alloc ?_ _)); refine blk_put (cs := #[.int .i64 ((rd_T51 ((rd_T49 l1 x7_1).f1) x8_2).f0), .int .i64 0, .int .i64 0]) ?_ 1 _ rfl; (with_reducible repeat (first | refine blk_drewN ?_ _ | refine blk_drew ?_ | refine blk_alloc ?_ _)); refine blk_put (cs := #[.int .i64 0, .int .i64 0, .int .i64 0]) ?_ 0 _ rfl; (with_reducible repeat (first | refine blk_drewN ?_ _ | refine blk_drew ?_ | refine blk_alloc ?_ _)); exact BK248.out) hb); have n4_ := mk_ (below_step (bs2_ HB GE242 GE248) hb); clear HO_5 HO_6 BK242 BK248 HB; revert n0_ n1_ n2_ n3_ n4_; intro HO_5 HO_6 BK242 BK248 HB; (try clear hb); (try clear hb2); (try clear hk); (try clear hi); have hcz29_0 := bc0_ BK248.out; have hcz29_1 := bc1_ BK248.out; have hcz29_2 := bc2_ BK248.out; have hfz29_0 := blk_frozen BK248.out 0; have hfz29_1 := blk_frozen BK248.out 1; have hfz29_2 := blk_frozen BK248.out 2; obtain ⟨Ao30, co30, eo30⟩ := Kd.R_slice HO_5.out; subst eo30) | (go_at_call 24; (with_reducible refine (cohousingref23_In.calls k2 _ _ x5_2 ((rd_T51 ((rd_T49 l1 x7_1).f1) x8_2).f0) t250 _ ?side1 ?side2 A13.out).mono ?_); (case side1 => exact cc_ ((Kd.R_reads' HO_5.out).2.2)); (case side2 => exact (Kd.R_reads' HO_5.out).2.1); rintro e w' ⟨rfl, ⟨nd, rfl⟩⟩; obtain ⟨Ao31, co31, eo31⟩ := Kd.R_slice HO_6.out; subst eo31) | (go_at_call 24; (with_reducible refine (cohousingref23_In.calls k2 _ _ x6_2 ((rd_T51 ((rd_T49 l1 x7_1).f1) x8_2).f2) t251 _ ?side1 ?side2 A22.out).mono ?_); (case side1 => exact cc_ ((Kd.R_reads' HO_6.out).2.2)); (case side2 => exact (Kd.R_reads' HO_6.out).2.1); rintro e w' ⟨rfl, ⟨nd, rfl⟩⟩))
      go_ret
      exact ⟨ew_, bs2_ HB GE242 GE248⟩
     rw [if_neg c23] at H
     have c23b0 : decide (0 ≤ t251) = false := decide_eq_false c23
     clear c23
     by_cases c32 : x5_2.length < 17592186044416
     rotate_left
     ·rw [if_neg c32] at H
      exact absurd H (by simp)
     rw [if_pos c32] at H
     have LMc32 := mk_ c32
     clear c32
     obtain ⟨y252, hy252⟩ : ∃ y_ : List Int, y_ = (x5_2 ++ [(rd_T51 ((rd_T49 l1 x7_1).f1) x8_2).f0]) := ⟨_, rfl⟩
     replace H : (if x6_2.length < 17592186044416 then (cohousingref26_Rings.l1 k2 l1 y252 (x6_2 ++ [(rd_T51 ((rd_T49 l1 x7_1).f1) x8_2).f2]) x7_1 (wrap64 (x8_2 + 1)) l0_0 l0_1) else (none)) = some r := by first | (rw [hy252]; with_reducible exact H) | (have H2_ := (Option.bind_some _ _).symm.trans H; rw [hy252]; with_reducible exact H2_) | (have H2_ := (Option.bind_some _ _).symm.trans H; with_reducible exact H2_) | with_reducible exact H | (rw [hy252]; exact H) | exact H
     have Ny252 := mk_ hy252
     clear hy252
     by_cases c33 : x6_2.length < 17592186044416
     rotate_left
     ·rw [if_neg c33] at H
      exact absurd H (by simp)
     rw [if_pos c33] at H
     have LMc33 := mk_ c33
     clear c33
     obtain ⟨y255, hy255⟩ : ∃ y_ : List Int, y_ = (x6_2 ++ [(rd_T51 ((rd_T49 l1 x7_1).f1) x8_2).f2]) := ⟨_, rfl⟩
     replace H : (cohousingref26_Rings.l1 k2 l1 y252 y255 x7_1 (wrap64 (x8_2 + 1)) l0_0 l0_1) = some r := by first | (rw [hy255]; with_reducible exact H) | (have H2_ := (Option.bind_some _ _).symm.trans H; rw [hy255]; with_reducible exact H2_) | (have H2_ := (Option.bind_some _ _).symm.trans H; with_reducible exact H2_) | with_reducible exact H | (rw [hy255]; exact H) | exact H
     have Ny255 := mk_ hy255
     clear hy255
     have H' := mk_ H
     clear H
     have p243 : 0 ≤ (x7_1 : Int) := od_
     have q243 : x7_1 < (l1.length : Int) := od_
     obtain ⟨ad243, A243_1, c243_1, e243, hx243_0, hx243_1, hl243_1, hi243_1⟩ := at_T49 HR1.out x7_1 p243 q243
     cases e243
     replace hx243_0 := cb_ HB hx243_0
     replace hx243_1 := cb_ HB hx243_1
     have HR243_1 := mk_ hi243_1
     have HC243_1 := mk_ hl243_1
     clear hi243_1 hl243_1
     replace p243 := eq_true p243
     replace q243 := eq_true q243
     have p246 : 0 ≤ (x7_1 : Int) := od_
     have q246 : x7_1 < (l1.length : Int) := od_
     obtain ⟨ad246, A246_1, c246_1, e246, hx246_0, hx246_1, hl246_1, hi246_1⟩ := at_T49 HR1.out x7_1 p246 q246
     obtain rfl : ad243 = ad246 := (by injection e246)
     replace hx246_0 := cb_ HB hx246_0
     replace hx246_1 := cb_ HB hx246_1
     have HR246_1 := mk_ hi246_1
     have HC246_1 := mk_ hl246_1
     clear hi246_1 hl246_1
     replace p246 := eq_true p246
     replace q246 := eq_true q246
     have ea_ := Option.some.inj (hx243_1.symm.trans hx246_1)
     injection ea_ with ea_ en_ ec_
     subst ea_
     subst ec_
     clear en_
     have p247 : 0 ≤ (x8_2 : Int) := od_
     have q247 : x8_2 < (((rd_T49 l1 x7_1).f1).length : Int) := od_
     obtain ⟨ad247, e247, hx247_0, hx247_1, hx247_2⟩ := at_T51 HR246_1.out x8_2 p247 q247
     cases e247
     replace hx247_0 := cb_ HB hx247_0
     replace hx247_1 := cb_ HB hx247_1
     replace hx247_2 := cb_ HB hx247_2
     replace p247 := eq_true p247
     replace q247 := eq_true q247
     go_wp2_with (first | ((with_reducible refine gate_dst (N := 9) rfl ?_); refine box_event ?hg (N := 9) ?hd (cs := #[.int .i64 0, .int .i64 0, .int .i64 0]) (t := 51) ?hr ?_; (case hd => rfl); (case hg => rfl); (case hr => first | (go_simp; done) | (go_simp; rfl)); intro gb248 hg w34 hbox hb; have n0_ := mk_ (Kd.R_below (rr_ HO_5) hb); have n1_ := mk_ (Kd.R_below (rr_ HO_6) hb); have n2_ := mk_ (blk_below (kk_ BK242) hb); have n3_ := mk_ (below_step (bs_ HB GE242.out) hb); have n4_ := mk_ (hbox); have n5_ := mk_ (bz_ hg (bs_ HB GE242.out)); have n6_ := mk_ (bz_ hg (bs_ HB GE242.out)); have n7_ := mk_ (bl_ hg (kk_ BK242)); have n8_ := mk_ (bg_ hg (kk_ BK242)); clear HO_5 HO_6 BK242 HB; revert n0_ n1_ n2_ n3_ n4_ n5_ n6_ n7_ n8_; intro HO_5 HO_6 BK242 HB BK248 GW248 GE248 NB242_248 NB248_242; clear hb hbox hg; have hnb35 := NB248_242.out; have hnc35 := NB242_248.out; have hcz36_0 := bc0_ BK248.out; have hcz36_1 := bc1_ BK248.out; have hcz36_2 := bc2_ BK248.out; have hfz36_0 := blk_frozen BK248.out 0; have hfz36_1 := blk_frozen BK248.out 1; have hfz36_2 := blk_frozen BK248.out 2; have hcz37_0 := bc0_ BK242.out; have hcz37_1 := bc1_ BK242.out; have hfz37_0 := blk_frozen BK242.out 0; have hfz37_1 := blk_frozen BK242.out 1) | ((with_reducible refine gate_callee (f := 41) rfl ?_); refine gl_ (some 41) Try.func41 #[.agg #[.slice A0_0 l0_0.length c0_0, .slice A0_1 l0_1.length c0_1], .agg #[.int .i64 ((rd_T51 ((rd_T49 l1 x7_1).f1) x8_2).f0), .int .i64 ((rd_T51 ((rd_T49 l1 x7_1).f1) x8_2).f1), .int .i64 ((rd_T51 ((rd_T49 l1 x7_1).f1) x8_2).f2)]] ?_; (with_reducible refine (cohousingref26_move.calls k2 _ _ l0_0 _ _ l0_1 ((rd_T51 ((rd_T49 l1 x7_1).f1) x8_2).f0) ((rd_T51 ((rd_T49 l1 x7_1).f1) x8_2).f1) ((rd_T51 ((rd_T49 l1 x7_1).f1) x8_2).f2) true _ ?side1 ?side2 ?side3 ?side4 A11.out).mono ?_); (case side1 => exact Kd.C_below HR0_0.out (bs2_ HB GE242 GE248)); (case side2 => exact HC0_0.out); (case side3 => exact Kd.C_below HR0_1.out (bs2_ HB GE242 GE248)); (case side4 => exact HC0_1.out); rintro e w38 ⟨rfl, hb⟩; refine ⟨_, rfl, ?_⟩; have n0_ := mk_ (Kd.R_below (by (with_reducible repeat (first | apply Kd.R_alloc | apply Kd.R_drewN | apply Kd.R_drew)); exact (Kd.R_mono (Kd.R_far (p := ⟨gb248, 2, none⟩) (Kd.R_far (p := ⟨gb248, 1, none⟩) (Kd.R_far (p := ⟨gb248, 0, none⟩) (Kd.R_types HO_5.out BK248.out (by decide)) (fun _ hk => hk.2) (.int .i64 ((rd_T51 ((rd_T49 l1 x7_1).f1) x8_2).f0))) (fun _ hk => hk.2) (.int .i64 ((rd_T51 ((rd_T49 l1 x7_1).f1) x8_2).f1))) (fun _ hk => hk.2) (.int .i64 ((rd_T51 ((rd_T49 l1 x7_1).f1) x8_2).f2))) (fun _ h_ => h_.1))) hb); have n1_ := mk_ (Kd.R_below (by (with_reducible repeat (first | apply Kd.R_alloc | apply Kd.R_drewN | apply Kd.R_drew)); exact (Kd.R_mono (Kd.R_far (p := ⟨gb248, 2, none⟩) (Kd.R_far (p := ⟨gb248, 1, none⟩) (Kd.R_far (p := ⟨gb248, 0, none⟩) (Kd.R_types HO_6.out BK248.out (by decide)) (fun _ hk => hk.2) (.int .i64 ((rd_T51 ((rd_T49 l1 x7_1).f1) x8_2).f0))) (fun _ hk => hk.2) (.int .i64 ((rd_T51 ((rd_T49 l1 x7_1).f1) x8_2).f1))) (fun _ hk => hk.2) (.int .i64 ((rd_T51 ((rd_T49 l1 x7_1).f1) x8_2).f2))) (fun _ h_ => h_.1))) hb); have n2_ := mk_ (blk_below (g := gb242) (o := .cells #[.slice A0_0 l0_0.length c0_0, .slice A0_1 l0_1.length c0_1] 25 (0, 0)) (by (with_reducible repeat (first | refine blk_drewN ?_ _ | refine blk_drew ?_ | refine blk_alloc ?_ _)); refine blk_far ?_ NB242_248.out _; (with_reducible repeat (first | refine blk_drewN ?_ _ | refine blk_drew ?_ | refine blk_alloc ?_ _)); refine blk_far ?_ NB242_248.out _; (with_reducible repeat (first | refine blk_drewN ?_ _ | refine blk_drew ?_ | refine blk_alloc ?_ _)); refine blk_far ?_ NB242_248.out _; (with_reducible repeat (first | refine blk_drewN ?_ _ | refine blk_drew ?_ | refine blk_alloc ?_ _)); exact BK242.out) hb); have n3_ := mk_ (blk_below (g := gb248) (o := .cells #[.int .i64 ((rd_T51 ((rd_T49 l1 x7_1).f1) x8_2).f0), .int .i64 ((rd_T51 ((rd_T49 l1 x7_1).f1) x8_2).f1), .int .i64 ((rd_T51 ((rd_T49 l1 x7_1).f1) x8_2).f2)] 51 (0, 0)) (by (with_reducible repeat (first | refine blk_drewN ?_ _ | refine blk_drew ?_ | refine blk_alloc ?_ _)); refine blk_put (cs := #[.int .i64 ((rd_T51 ((rd_T49 l1 x7_1).f1) x8_2).f0), .int .i64 ((rd_T51 ((rd_T49 l1 x7_1).f1) x8_2).f1), .int .i64 0]) ?_ 2 _ rfl; (with_reducible repeat (first | refine blk_drewN ?_ _ | refine blk_drew ?_ | refine blk_alloc ?_ _)); refine blk_put (cs := #[.int .i64 ((rd_T51 ((rd_T49 l1 x7_1).f1) x8_2).f0), .int .i64 0, .int .i64 0]) ?_ 1 _ rfl; (with_reducible repeat (first | refine blk_drewN ?_ _ | refine blk_drew ?_ | refine blk_alloc ?_ _)); refine blk_put (cs := #[.int .i64 0, .int .i64 0, .int .i64 0]) ?_ 0 _ rfl; (with_reducible repeat (first | refine blk_drewN ?_ _ | refine blk_drew ?_ | refine blk_alloc ?_ _)); exact BK248.out) hb); have n4_ := mk_ (below_step (bs2_ HB GE242 GE248) hb); clear HO_5 HO_6 BK242 BK248 HB; revert n0_ n1_ n2_ n3_ n4_; intro HO_5 HO_6 BK242 BK248 HB; (try clear hb); (try clear hb2); (try clear hk); (try clear hi); have hcz39_0 := bc0_ BK248.out; have hcz39_1 := bc1_ BK248.out; have hcz39_2 := bc2_ BK248.out; have hfz39_0 := blk_frozen BK248.out 0; have hfz39_1 := blk_frozen BK248.out 1; have hfz39_2 := blk_frozen BK248.out 2; obtain ⟨Ao40, co40, eo40⟩ := Kd.R_slice HO_5.out; subst eo40) | (go_at_call 24; (with_reducible refine (cohousingref23_In.calls k2 _ _ x5_2 ((rd_T51 ((rd_T49 l1 x7_1).f1) x8_2).f0) t250 _ ?side1 ?side2 A13.out).mono ?_); (case side1 => exact cc_ ((Kd.R_reads' HO_5.out).2.2)); (case side2 => exact (Kd.R_reads' HO_5.out).2.1); rintro e w' ⟨rfl, ⟨nd, rfl⟩⟩; obtain ⟨Ao41, co41, eo41⟩ := Kd.R_slice HO_6.out; subst eo41) | (go_at_call 24; (with_reducible refine (cohousingref23_In.calls k2 _ _ x6_2 ((rd_T51 ((rd_T49 l1 x7_1).f1) x8_2).f2) t251 _ ?side1 ?side2 A22.out).mono ?_); (case side1 => exact cc_ ((Kd.R_reads' HO_6.out).2.2)); (case side2 => exact (Kd.R_reads' HO_6.out).2.1); rintro e w' ⟨rfl, ⟨nd, rfl⟩⟩) | ((with_reducible refine gate_builtin (b := .append) (xs := #[.tmp 58, .tmp 61]) rfl ?_); at_builtin; refine Kd.R_append (Kd.int .i64) (w0 := w) w.heap.size rfl (.tmp 58) (.tmp 61) 29 3 (.int .i64 0) 8 rfl Try.underlying29 info3 rfl (by decide) (by omega) (.slice Ao40 x5_2.length co40) x5_2 ((rd_T51 ((rd_T49 l1 x7_1).f1) x8_2).f0) [.int .i64 ((rd_T51 ((rd_T49 l1 x7_1).f1) x8_2).f0)] (fun k_ => some k_ ≠ (.slice Ao41 x6_2.length co41 : Value).ownBlock) (fun _ => False) rfl rfl ?aP (fun _ hk => hk.elim) ?aF ?aO ?aB ?aS ?aL ?_; (case aP => exact rfl); (case aB => exact (bs2_ HB GE242 GE248)); (case aF => exact (fun k_ hk => Kd.fresh' (Kd.R_lt (rr_ HO_6)) k_ hk)); (case aO => exact (rr_ HO_5)); (case aS => exact (below_size (bs2_ HB GE242 GE248))); (case aL => have := LMc32.out; omega); intro v253 w42 ho hb hg hat; rw [← Ny252.out] at ho; have n0_ := mk_ (Kd.R_after (ok := (fun _ => True)) (by (with_reducible repeat (first | apply Kd.R_alloc | apply Kd.R_drewN | apply Kd.R_drew)); exact Kd.R_mono HO_6.out (fun _ hk => ⟨trivial, hk⟩)) hg hat); have n1_ := mk_ (blk_grown (kk_ BK242) hg (Kd.R_ne HO_5.out BK242.out (by decide))); have n2_ := mk_ (blk_grown (g := gb248) (o := .cells #[.int .i64 ((rd_T51 ((rd_T49 l1 x7_1).f1) x8_2).f0), .int .i64 ((rd_T51 ((rd_T49 l1 x7_1).f1) x8_2).f1), .int .i64 ((rd_T51 ((rd_T49 l1 x7_1).f1) x8_2).f2)] 51 (0, 0)) (kk_ BK248) hg (Kd.R_ne HO_5.out BK248.out (by decide))); have n3_ := mk_ (hb); have n4_ := mk_ (ho); clear HO_6 BK242 BK248 HB HO_5; revert n0_ n1_ n2_ n3_ n4_; intro HO_6 BK242 BK248 HB HO254; clear ho hb hg hat; have hcz43_0 := bc0_ BK248.out; have hcz43_1 := bc1_ BK248.out; have hcz43_2 := bc2_ BK248.out; have hfz43_0 := blk_frozen BK248.out 0; have hfz43_1 := blk_frozen BK248.out 1; have hfz43_2 := blk_frozen BK248.out 2) | ((with_reducible refine gate_builtin (b := .append) (xs := #[.tmp 63, .tmp 66]) rfl ?_); at_builtin; refine Kd.R_append (Kd.int .i64) (w0 := w) w.heap.size rfl (.tmp 63) (.tmp 66) 29 3 (.int .i64 0) 8 rfl Try.underlying29 info3 rfl (by decide) (by omega) (.slice Ao41 x6_2.length co41) x6_2 ((rd_T51 ((rd_T49 l1 x7_1).f1) x8_2).f2) [.int .i64 ((rd_T51 ((rd_T49 l1 x7_1).f1) x8_2).f2)] (fun k_ => some k_ ≠ (v253 : Value).ownBlock) (fun _ => False) rfl rfl ?aP (fun _ hk => hk.elim) ?aF ?aO ?aB ?aS ?aL ?_; (case aP => exact rfl); (case aB => exact (bs2_ HB GE242 GE248)); (case aF => exact (fun k_ hk => Kd.fresh' (Kd.R_lt (rr_ HO254)) k_ hk)); (case aO => exact (by (with_reducible repeat (first | apply Kd.R_alloc | apply Kd.R_drewN | apply Kd.R_drew)); exact Kd.R_mono HO_6.out (fun _ hk => hk.2))); (case aS => exact (below_size (bs2_ HB GE242 GE248))); (case aL => have := LMc33.out; omega); intro v256 w44 ho hb hg hat; rw [← Ny255.out] at ho; have n0_ := mk_ (blk_grown (kk_ BK242) hg (Kd.R_ne HO_6.out BK242.out (by decide))); have n1_ := mk_ (blk_grown (g := gb248) (o := .cells #[.int .i64 ((rd_T51 ((rd_T49 l1 x7_1).f1) x8_2).f0), .int .i64 ((rd_T51 ((rd_T49 l1 x7_1).f1) x8_2).f1), .int .i64 ((rd_T51 ((rd_T49 l1 x7_1).f1) x8_2).f2)] 51 (0, 0)) (kk_ BK248) hg (Kd.R_ne HO_6.out BK248.out (by decide))); have n2_ := mk_ (Kd.R_after (ok := (fun _ => True)) (by (with_reducible repeat (first | apply Kd.R_alloc | apply Kd.R_drewN | apply Kd.R_drew)); exact Kd.R_mono HO254.out (fun _ hk => ⟨trivial, hk⟩)) hg hat); have n3_ := mk_ (hb); have n4_ := mk_ (ho); clear BK242 BK248 HO254 HB HO_6; revert n0_ n1_ n2_ n3_ n4_; intro BK242 BK248 HO254 HB HO257; clear ho hb hg hat))
     go_roundg k2
     case measure => have := HK1.out; have := HK2.out; omega
     case rel => exact ⟨(y252), (y255), (wrap64 (x8_2 + 1)), sd_, H', ⟨by have := HK1.out; have := HK2.out; omega⟩, ⟨by (with_reducible repeat (first | apply Kd.R_alloc | apply Kd.R_drewN | apply Kd.R_drew)); exact Kd.R_mono HO254.out (fun _ hk => hk.2)⟩, ⟨rr_ HO257⟩, ⟨kk_ BK242⟩, ⟨bs2_ HB GE242 GE248⟩⟩
end Go.Proofs.Ytocbiggglnpeoaa.M
end
