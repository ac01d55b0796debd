/- Part 1 of the proof of TopSettles: what it alone needs. -/
import Derived.Test.YthjjabcbngffoaaCSd
set_option linter.unusedVariables false
set_option linter.unusedSimpArgs false
section
namespace Go.Proofs.Ythjjabcbngffoaa.P
open Go.RowKit Go.Proofs.YthjjabcbngffoaaW.PrintWords Go.Proofs.YthjjabcbngffoaaW.PrintLast Go.Proofs.YthjjabcbngffoaaW.PrintMore
attribute [local go_sem] max2_int min2_int max_two min_two max_three min_three max_four min_four
set_option linter.unusedVariables false
set_option linter.unusedSimpArgs false
set_option maxHeartbeats 8000000
set_option maxRecDepth 100000
section
def cohousingtop_w17Cut.l0 : Nat → List (S38) → List (S38) → Int → Int → Option ((List (S38)))
 | 0, _, _, _, _ => none
 | k + 1, x1, x5, x12, x13 => if x13 < x12 then (if x13 < (x1.length : Int) then (if 0 ≤ x13 then (if x13 < (x5.length : Int) then (if (mx ((rd_T38 x5 x13).f0) ((rd_T38 x1 x13).f0)) ≤ (mn ((rd_T38 x5 x13).f1) ((rd_T38 x1 x13).f1)) then (cohousingtop_w17Cut.l0 k x1 (x5.set (x13 : Int).toNat (⟨mx ((rd_T38 x5 x13).f0) ((rd_T38 x1 x13).f0), mn ((rd_T38 x5 x13).f1) ((rd_T38 x1 x13).f1)⟩ : S38)) x12 (wrap64 (x13 + 1))) else (cohousingtop_w17Cut.l0 k x1 x5 x12 (wrap64 (x13 + 1)))) else (none)) else (none)) else (cohousingtop_w17Cut.l0 k x1 x5 x12 (wrap64 (x13 + 1)))) else (some x5)
def cohousingtop_w17Cut.f (k : Nat) (l0 : List (S38)) (l1 : List (S38)) : Option ((List (S38))) := (some (([] : List (S38)) : List (S38))).bind fun y546 => (if y546.length + l0.length < 8796093022208 then ((some (y546 ++ l0 : List (S38))).bind fun y549 => (cohousingtop_w17Cut.l0 k l1 y549 (y549.length : Int) 0)) else (none))
def cohousingtop_w17Cut.T6 : Bool × List (List Nat × List Nat) := (true, [([], []), ([], []), ([0, 1], [0, 1]), ([2], [2]), ([3], [3]), ([], []), ([], []), ([5, 6], [5, 6]), ([7], [7]), ([8], [8]), ([4, 9], [4, 9]), ([], []), ([], []), ([11, 12], [11, 12]), ([13], [13]), ([14], [14]), ([], []), ([], []), ([16, 17], [16, 17]), ([18], [18]), ([19], [19]), ([15, 20], [15, 20]), ([10, 21], [10, 21]), ([], []), ([23, 22, 0, 1, 2, 3, 4, 5, 6, 7, 8, 9, 10, 11, 12, 13, 14, 15, 16, 17, 18, 19, 20, 21, 22, 23], [22, 23])])
def cohousingtop_w17Cut.B6 : List Nat := [0, 0, 3, 7, 15, 0, 0, 96, 224, 480, 1023, 0, 0, 6144, 14336, 30720, 0, 0, 196608, 458752, 983040, 2095104, 4194303, 0, 16777215]
theorem cohousingtop_w17Cut.tab6 : rtab .any (opsOf Try.f28 6) = cohousingtop_w17Cut.T6 := by kernel_rfl
theorem cohousingtop_w17Cut.bits6 : waitsOk cohousingtop_w17Cut.T6.2 cohousingtop_w17Cut.B6 = true := by kernel_rfl
theorem cohousingtop_w17Cut.calls (k : Nat) (A0 : Option Addr) (c0 : Nat) (l0 : List (S38)) (A1 : Option Addr) (c1 : Nat) (l1 : List (S38)) (r : List (S38)) (w : World) (hr0 : Kd.C k38 w A0 l0.length l0) (hc0 : l0.length ≤ c0) (hr1 : Kd.C k38 w A1 l1.length l1) (hc1 : l1.length ≤ c1) (h : cohousingtop_w17Cut.f k l0 l1 = some r) :
  Calls Try.prog 28 #[.slice A0 l0.length c0, .slice A1 l1.length c1] w fun e w' => ∃ v0_ : Value, e = .returned (v0_) ∧ Kd.R k38 38 w' w.heap.size (fun _ => True) v0_ r ∧ Below w.heap.size w w' := by
 have hu38 := Try.underlying38
 have HR0 := Aside0.mk hr0
 have HC0 := Aside0.mk hc0
 clear hr0 hc0
 have HR1 := Aside0.mk hr1
 have HC1 := Aside0.mk hc1
 clear hr1 hc1
 have HB := Aside0.mk (Below.refl w.heap.size w)
 have H : ((some (([] : List (S38)) : List (S38))).bind fun y546 => (if y546.length + l0.length < 8796093022208 then ((some (y546 ++ l0 : List (S38))).bind fun y549 => (cohousingtop_w17Cut.l0 k l1 y549 (y549.length : Int) 0)) else (none))) = some r := h
 clear h
 obtain ⟨y546, hy546⟩ : ∃ y_ : List (S38), y_ = (([] : List (S38))) := ⟨_, rfl⟩
 replace H : (if y546.length + l0.length < 8796093022208 then ((some (y546 ++ l0 : List (S38))).bind fun y549 => (cohousingtop_w17Cut.l0 k l1 y549 (y549.length : Int) 0)) else (none)) = some r := by first | (rw [hy546]; with_reducible exact H) | (have H2_ := (Option.bind_some _ _).symm.trans H; rw [hy546]; with_reducible exact H2_) | (have H2_ := (Option.bind_some _ _).symm.trans H; with_reducible exact H2_) | with_reducible exact H | (rw [hy546]; exact H) | exact H
 have Ny546 := Aside0.mk hy546
 clear hy546
 by_cases c3 : y546.length + l0.length < 8796093022208
 ·rw [if_pos c3] at H
  have LMc3 := Aside0.mk c3
  clear c3
  obtain ⟨y549, hy549⟩ : ∃ y_ : List (S38), y_ = (y546 ++ l0) := ⟨_, rfl⟩
  replace H : (cohousingtop_w17Cut.l0 k l1 y549 (y549.length : Int) 0) = some r := by first | (rw [hy549]; with_reducible exact H) | (have H2_ := (Option.bind_some _ _).symm.trans H; rw [hy549]; with_reducible exact H2_) | (have H2_ := (Option.bind_some _ _).symm.trans H; with_reducible exact H2_) | with_reducible exact H | (rw [hy549]; exact H) | exact H
  have Ny549 := Aside0.mk hy549
  clear hy549
  have H' := Aside0.mk H
  clear H
  go_enter Try.func28, Try.ntmps28
  go_wp2_with (first | ((with_reducible refine gate_dst (N := 8) rfl ?_); refine Kd.R_lit k38 _ 38 ?hg (N := 8) ?hd (xs := ([] : List (S38))) (inner := []) (ok := fun _ => True) (okp := fun _ => True) ?hr ?hp (fun _ hk => hk) trivial (Below.refl _ _) (Nat.le_refl _) (by simp) ?_; (case hd => rfl); (case hg => rfl); (case hr => first | (go_simp; done) | (go_simp; rfl)); (case hp => exact (Reps.none _ _)); intro v547 w4 ho5 hb hg_ hnew_; clear hg_ hnew_; (first | rw [← Ny546.out] at ho5 | (simp only [Int.reduceToNat] at ho5; rw [← Ny546.out] at ho5)); have n0_ := Aside0.mk (Kd.R_lower ho5 (below_size (bb_ HB))); have n1_ := Aside0.mk (below_step (bb_ HB) hb); clear HB; have HO548 := n0_; have HB := n1_; clear n0_ n1_; clear hb ho5) | ((with_reducible refine gate_builtin (b := .append) (xs := #[.tmp 8, .tmp 9]) rfl ?_); at_builtin; refine Kd.R_append_rows k38 (w0 := w) w.heap.size rfl (.tmp 8) (.tmp 9) 23 38 (.agg #[(.int .i64 0), (.int .i64 0)]) 16 rfl Try.underlying23 info38 rfl (by decide) (by omega) v547 y546 l0 _ _ _ (fun _ => True) (fun _ => False) rfl rfl ?aO ?aR (fun _ _ h => h) (fun _ h => h.elim) ?aF ?aB ?aS ?aL ?_; (case aR => exact cc_ ((Kd.C_below HR0.out HB.out))); (case aB => exact (bb_ HB)); (case aF => exact (fun _ _ => trivial)); (case aO => exact (rr_ HO548)); (case aS => exact (below_size (bb_ HB))); (case aL => have := LMc3.out; omega); intro v550 w6 ho hb hg hat; rw [← Ny549.out] at ho; have n0_ := Aside0.mk (hb); have n1_ := Aside0.mk (ho); clear HB; clear HO548; have HB := n0_; have HO551 := n1_; clear n0_ n1_; clear ho hb hg hat; obtain ⟨Ao7, co7, eo7⟩ := Kd.R_slice HO551.out; subst eo7))
  go_loopg [13] k (fun kq v13 w' => ∃ (x5_1 : List (S38)) (x13_1 : Int), v13 = .int .i64 x13_1 ∧ Aside0 (cohousingtop_w17Cut.l0 kq l1 x5_1 (y549.length : Int) x13_1 = some r) ∧ Aside0 (kq ≤ k) ∧ Aside0 (Kd.R k38 38 w' w.heap.size (fun _ => True) (.slice Ao7 y549.length co7) x5_1) ∧ Aside0 (Below w.heap.size w w'))
  case atStart => exact ⟨(y549), (0), sd_, H', ⟨Nat.le_refl _⟩, ⟨by (with_reducible repeat (first | apply Kd.R_alloc | apply Kd.R_drewN | apply Kd.R_drew)); exact HO551.out⟩, ⟨by repeat (first | (with_reducible first | exact HB.out | apply below_alloc | apply pw_below_drewN | apply below_drew1) | exact HB.out)⟩⟩
  case round =>
   clear H'
   try clear c1
   try clear c2
   try clear p2
   try clear c3
   obtain ⟨x5_1, x13_1, rfl, HA, HK1, HO_5, HB⟩ := hrel
   have hl5_1 := (Kd.R_reads' HO_5.out).1
   rw [hl5_1] at HO_5
   (try simp only [hl5_1])
   cases gk with
   | zero => exact absurd HA.out (by simp [cohousingtop_w17Cut.l0])
   | succ k1 =>
    have H := HA.out
    clear HA
    simp only [cohousingtop_w17Cut.l0] at H
    by_cases c8 : x13_1 < (y549.length : Int)
    ·rw [if_pos c8] at H
     have c8b0 : decide (x13_1 < (y549.length : Int)) = true := decide_eq_true c8
     have c8b1 : decide (x13_1 < (x5_1.length : Int)) = true := decide_eq_true (by have := hl5_1; omega)
     clear c8
     by_cases c9 : x13_1 < (l1.length : Int)
     ·rw [if_pos c9] at H
      have c9b0 : decide (x13_1 < (l1.length : Int)) = true := decide_eq_true c9
      clear c9
      by_cases c10 : 0 ≤ x13_1
      ·rw [if_pos c10] at H
       have c10b0 : decide (0 ≤ x13_1) = true := decide_eq_true c10
       clear c10
       by_cases c11 : x13_1 < (x5_1.length : Int)
       ·rw [if_pos c11] at H
        have c11b0 : decide (x13_1 < (x5_1.length : Int)) = true := decide_eq_true c11
        clear c11
        obtain ⟨ji12, hji12⟩ : ∃ j_ : Int, (mx ((rd_T38 x5_1 x13_1).f0) ((rd_T38 l1 x13_1).f0)) = j_ := ⟨_, rfl⟩
        replace H : (if (ji12) ≤ (mn ((rd_T38 x5_1 x13_1).f1) ((rd_T38 l1 x13_1).f1)) then (cohousingtop_w17Cut.l0 k1 l1 (x5_1.set (x13_1 : Int).toNat (⟨ji12, mn ((rd_T38 x5_1 x13_1).f1) ((rd_T38 l1 x13_1).f1)⟩ : S38)) (y549.length : Int) (wrap64 (x13_1 + 1))) else (cohousingtop_w17Cut.l0 k1 l1 x5_1 (y549.length : Int) (wrap64 (x13_1 + 1)))) = some r := by first | (rw [hji12] at H; exact H) | (simp only [hji12] at H ⊢; exact H)
        have hji12_ : (if ((rd_T38 x5_1 x13_1).f0) < ((rd_T38 l1 x13_1).f0) then ((rd_T38 l1 x13_1).f0) else ((rd_T38 x5_1 x13_1).f0)) = ji12 := hji12
        obtain ⟨ji13, hji13⟩ : ∃ j_ : Int, (mn ((rd_T38 x5_1 x13_1).f1) ((rd_T38 l1 x13_1).f1)) = j_ := ⟨_, rfl⟩
        replace H : (if (ji12) ≤ (ji13) then (cohousingtop_w17Cut.l0 k1 l1 (x5_1.set (x13_1 : Int).toNat (⟨ji12, ji13⟩ : S38)) (y549.length : Int) (wrap64 (x13_1 + 1))) else (cohousingtop_w17Cut.l0 k1 l1 x5_1 (y549.length : Int) (wrap64 (x13_1 + 1)))) = some r := by first | (rw [hji13] at H; exact H) | (simp only [hji13] at H ⊢; exact H)
        have hji13_ : (if ((rd_T38 l1 x13_1).f1) < ((rd_T38 x5_1 x13_1).f1) then ((rd_T38 l1 x13_1).f1) else ((rd_T38 x5_1 x13_1).f1)) = ji13 := hji13
        by_cases c14 : (ji12) ≤ (ji13)
        ·rw [if_pos c14] at H
         have c14b0 : decide ((ji12) ≤ (ji13)) = true := decide_eq_true c14
         clear c14
         obtain ⟨y557, hy557⟩ : ∃ y_ : List (S38), y_ = (x5_1.set (x13_1 : Int).toNat (⟨ji12, ji13⟩ : S38)) := ⟨_, rfl⟩
         replace H : (cohousingtop_w17Cut.l0 k1 l1 y557 (y549.length : Int) (wrap64 (x13_1 + 1))) = some r := by first | (rw [hy557]; with_reducible exact H) | (have H2_ := (Option.bind_some _ _).symm.trans H; rw [hy557]; with_reducible exact H2_) | (have H2_ := (Option.bind_some _ _).symm.trans H; with_reducible exact H2_) | with_reducible exact H | (rw [hy557]; exact H) | exact H
         have Ny557 := Aside0.mk hy557
         clear hy557
         have H' := Aside0.mk H
         clear H
         try go_wp2
         have n0_ := Aside0.mk (Kd.R_drew HO_5.out)
         have n1_ := Aside0.mk (below_drew1 HB.out)
         clear HO_5
         clear HB
         have HO_5 := n0_
         have HB := n1_
         clear n0_ n1_
         have p552 : 0 ≤ (x13_1 : Int) := od_
         have q552 : x13_1 < (x5_1.length : Int) := od_
         obtain ⟨ad552, e552, hx552_0, hx552_1⟩ := at_T38 (Kd.R_reads' HO_5.out).2.2 x13_1 p552 q552
         cases e552
         replace p552 := eq_true p552
         replace q552 := eq_true q552
         have p553 : 0 ≤ (x13_1 : Int) := od_
         have q553 : x13_1 < (l1.length : Int) := od_
         obtain ⟨ad553, e553, hx553_0, hx553_1⟩ := at_T38 HR1.out x13_1 p553 q553
         have hw553_1 := hx553_1
         have hw553_0 := hx553_0
         cases e553
         replace hx553_0 := (HB.out.cell (World.block_lt_of_cell? w _ hx553_0)).trans hx553_0
         replace hx553_1 := (HB.out.cell (World.block_lt_of_cell? w _ hx553_1)).trans hx553_1
         replace p553 := eq_true p553
         replace q553 := eq_true q553
         have p554 : 0 ≤ (x13_1 : Int) := od_
         have q554 : x13_1 < (x5_1.length : Int) := od_
         obtain ⟨ad554, e554, hx554_0, hx554_1⟩ := at_T38 (Kd.R_reads' HO_5.out).2.2 x13_1 p554 q554
         obtain rfl : ad552 = ad554 := (by injection e554)
         replace p554 := eq_true p554
         replace q554 := eq_true q554
         have p555 : 0 ≤ (x13_1 : Int) := od_
         have q555 : x13_1 < (l1.length : Int) := od_
         obtain ⟨ad555, e555, hx555_0, hx555_1⟩ := at_T38 HR1.out x13_1 p555 q555
         have hw555_1 := hx555_1
         have hw555_0 := hx555_0
         obtain rfl : ad553 = ad555 := (by injection e555)
         replace hx555_0 := (HB.out.cell (World.block_lt_of_cell? w _ hx555_0)).trans hx555_0
         replace hx555_1 := (HB.out.cell (World.block_lt_of_cell? w _ hx555_1)).trans hx555_1
         replace p555 := eq_true p555
         replace q555 := eq_true q555
         refine start_ (n := 25) (S := fun w' => w'.cell? (ad552.add ((x13_1).toNat * 2)) = some (.int .i64 ((rd_T38 x5_1 x13_1).f0)) ∧ w'.cell? ⟨(ad552.add ((x13_1).toNat * 2)).block, (ad552.add ((x13_1).toNat * 2)).off + 1, none⟩ = some (.int .i64 ((rd_T38 x5_1 x13_1).f1)) ∧ w'.cell? (ad553.add ((x13_1).toNat * 2)) = some (.int .i64 ((rd_T38 l1 x13_1).f0)) ∧ w'.cell? ⟨(ad553.add ((x13_1).toNat * 2)).block, (ad553.add ((x13_1).toNat * 2)).off + 1, none⟩ = some (.int .i64 ((rd_T38 l1 x13_1).f1)) ∧ w'.cell? (ad552.add ((x13_1).toNat * 2)) = some (.int .i64 ((rd_T38 x5_1 x13_1).f0)) ∧ w'.cell? ⟨(ad552.add ((x13_1).toNat * 2)).block, (ad552.add ((x13_1).toNat * 2)).off + 1, none⟩ = some (.int .i64 ((rd_T38 x5_1 x13_1).f1)) ∧ w'.cell? (ad553.add ((x13_1).toNat * 2)) = some (.int .i64 ((rd_T38 l1 x13_1).f0)) ∧ w'.cell? ⟨(ad553.add ((x13_1).toNat * 2)).block, (ad553.add ((x13_1).toNat * 2)).off + 1, none⟩ = some (.int .i64 ((rd_T38 l1 x13_1).f1))) (ds := []) #[n_, n_, n_, n_, n_, n_, n_, n_, n_, n_, n_, n_, n_, n_, n_, n_, n_, n_, n_, n_, n_, n_, n_, n_, n_] (by kernel_rfl) rfl rfl ⟨hx552_0, hx552_1, ((HB.out.cell (World.block_lt_of_cell? w _ hw553_0)).trans hw553_0), ((HB.out.cell (World.block_lt_of_cell? w _ hw553_1)).trans hw553_1), hx554_0, hx554_1, ((HB.out.cell (World.block_lt_of_cell? w _ hw555_0)).trans hw555_0), ((HB.out.cell (World.block_lt_of_cell? w _ hw555_1)).trans hw555_1)⟩ (fun hHeld => ?_); refine with_tabW cohousingtop_w17Cut.tab6 cohousingtop_w17Cut.bits6 (fun HT_ HW_ => ?_)
         generalize wr.drew = w16 at HO_5 HB hx552_0 hx552_1 hx553_0 hx553_1 hx554_0 hx554_1 hx555_0 hx555_1 hHeld ⊢
         refine pu_ 0 20 (w_ 25 1) rfl HT_ ?_
         refine pu_ 1 21 (w_ 25 3) rfl HT_ ?_
         refine pu_ 2 22 (w_ 25 7) rfl HT_ ?_
         refine pu_ 3 23 (w_ 25 15) rfl HT_ ?_
         refine pu_ 5 25 (w_ 25 47) rfl HT_ ?_
         refine pu_ 6 26 (w_ 25 111) rfl HT_ ?_
         refine pu_ 7 27 (w_ 25 239) rfl HT_ ?_
         refine pu_ 8 28 (w_ 25 495) rfl HT_ ?_
         refine pu_ 11 31 (w_ 25 2543) rfl HT_ ?_
         refine pu_ 12 32 (w_ 25 6639) rfl HT_ ?_
         refine pu_ 13 33 (w_ 25 14831) rfl HT_ ?_
         refine pu_ 14 34 (w_ 25 31215) rfl HT_ ?_
         refine pu_ 16 36 (w_ 25 96751) rfl HT_ ?_
         refine pu_ 17 37 (w_ 25 227823) rfl HT_ ?_
         refine pu_ 18 38 (w_ 25 489967) rfl HT_ ?_
         refine pu_ 19 39 (w_ 25 1014255) rfl HT_ ?_
         refine ta_ 4 24 (w_ 25 1014271) rfl HT_ HW_ hHeld (by rintro w' ⟨s0, s1, s2, s3, s4, s5, s6, s7⟩; go_simp; with_reducible rfl) ?_
         refine ta_ 9 29 (w_ 25 1014783) rfl HT_ HW_ hHeld (by rintro w' ⟨s0, s1, s2, s3, s4, s5, s6, s7⟩; go_simp; with_reducible rfl) ?_
         refine pu_ 10 30 (w_ 25 1015807) rfl HT_ ?_
         refine ta_ 15 35 (w_ 25 1048575) rfl HT_ HW_ hHeld (by rintro w' ⟨s0, s1, s2, s3, s4, s5, s6, s7⟩; go_simp; with_reducible rfl) ?_
         refine ta_ 20 40 (w_ 25 2097151) rfl HT_ HW_ hHeld (by rintro w' ⟨s0, s1, s2, s3, s4, s5, s6, s7⟩; go_simp; with_reducible rfl) ?_
         refine pu_ 21 41 (w_ 25 4194303) rfl HT_ ?_
         refine pu_ 22 42 (w_ 25 8388607) rfl HT_ ?_
         refine one_ (i := 23) (N := some 7) (w_ 25 16777215) rfl rfl (one_of HT_.out (by kernel_rfl)) (by decide) (fun K hK => ?_)
         refine box_step ?hg (N := 7) ?hd (cs := #[.int .i64 0, .int .i64 0]) (t := 38) ?hr ?_; (case hd => rfl); (case hg => rfl); (case hr => first | (go_simp; done) | (go_simp; rfl))
         intro gb556 hg w17 hbox hb
         have HS0_ := (hb.cell (World.block_lt_of_cell? _ _ (hHeld.1))).trans (hHeld.1)
         have HS1_ := (hb.cell (World.block_lt_of_cell? _ _ (hHeld.2.1))).trans (hHeld.2.1)
         have HS4_ := (hb.cell (World.block_lt_of_cell? _ _ (hHeld.2.2.2.2.1))).trans (hHeld.2.2.2.2.1)
         have HS5_ := (hb.cell (World.block_lt_of_cell? _ _ (hHeld.2.2.2.2.2.1))).trans (hHeld.2.2.2.2.2.1)
         have n0_ := Aside0.mk (Kd.R_below (Kd.R_elderB (rr_ HO_5) gb556 (Nat.le_of_eq hg.symm)) hb)
         have n1_ := Aside0.mk (below_step (bb_ HB) hb)
         have n2_ := Aside0.mk (hbox)
         have n3_ := Aside0.mk ((by rw [hg]; exact (below_size (bb_ HB)) : w.heap.size ≤ gb556))
         have n4_ := Aside0.mk ((by rw [hg]; exact (below_size (bb_ HB)) : w.heap.size ≤ gb556))
         clear HO_5
         clear HB
         have HO_5 := n0_
         have HB := n1_
         have BK556 := n2_
         have GW556 := n3_
         have GE556 := n4_
         clear n0_ n1_ n2_ n3_ n4_
         clear hb hbox hg
         refine hK.out _ _ ⟨HS0_, HS1_, ((HB.out.cell (World.block_lt_of_cell? w _ hw553_0)).trans hw553_0), ((HB.out.cell (World.block_lt_of_cell? w _ hw553_1)).trans hw553_1), HS4_, HS5_, ((HB.out.cell (World.block_lt_of_cell? w _ hw555_0)).trans hw555_0), ((HB.out.cell (World.block_lt_of_cell? w _ hw555_1)).trans hw555_1)⟩ (fun hHeld => ?_)
         clear hK K
         refine norm_ (a' := ?_) ?_ ?_
         rotate_left
         ·show Act.put _ (some 7) _ = _
          simp only [Act.put, sI_, s0_, sS_, i64_w, i32_w]
          rfl
         refine one_ (i := 24) (N := none) (w_ 25 33554431) rfl rfl (one_of HT_.out (by kernel_rfl)) (by decide) (fun K hK => ?_)
         have hs18 : w17.cell? ⟨gb556, 0, none⟩ = some (.int .i64 0) := (blk_cell BK556.out 0).trans rfl
         have hfs18 := blk_frozen BK556.out 0
         have hs19 : w17.cell? ⟨gb556, 1, none⟩ = some (.int .i64 0) := (blk_cell BK556.out 1).trans rfl
         have hfs19 := blk_frozen BK556.out 1
         refine skip_ (w1 := ?_) (by rfl) rfl ?_ ?_
         rotate_left
         ·go_simp
          rfl
         refine hK.out _ _ ⟨((cell_far (p := ⟨gb556, _, none⟩) (by first | exact Kd.own_blk (Kd.R_away HO_5.out (fun _ hk => hk.2)) | (rw [add_block]; exact Kd.own_blk (Kd.R_away HO_5.out (fun _ hk => hk.2))) | (show (Addr.add _ _).block ≠ _; rw [add_block]; exact Kd.own_blk (Kd.R_away HO_5.out (fun _ hk => hk.2))) | (dsimp only; exact Kd.own_blk (Kd.R_away HO_5.out (fun _ hk => hk.2)))) _).trans (((cell_far (p := ⟨gb556, _, none⟩) (by first | exact Kd.own_blk (Kd.R_away HO_5.out (fun _ hk => hk.2)) | (rw [add_block]; exact Kd.own_blk (Kd.R_away HO_5.out (fun _ hk => hk.2))) | (show (Addr.add _ _).block ≠ _; rw [add_block]; exact Kd.own_blk (Kd.R_away HO_5.out (fun _ hk => hk.2))) | (dsimp only; exact Kd.own_blk (Kd.R_away HO_5.out (fun _ hk => hk.2)))) _).trans (hHeld.1)))), ((cell_far (p := ⟨gb556, _, none⟩) (by first | exact Kd.own_blk (Kd.R_away HO_5.out (fun _ hk => hk.2)) | (rw [add_block]; exact Kd.own_blk (Kd.R_away HO_5.out (fun _ hk => hk.2))) | (show (Addr.add _ _).block ≠ _; rw [add_block]; exact Kd.own_blk (Kd.R_away HO_5.out (fun _ hk => hk.2))) | (dsimp only; exact Kd.own_blk (Kd.R_away HO_5.out (fun _ hk => hk.2)))) _).trans (((cell_far (p := ⟨gb556, _, none⟩) (by first | exact Kd.own_blk (Kd.R_away HO_5.out (fun _ hk => hk.2)) | (rw [add_block]; exact Kd.own_blk (Kd.R_away HO_5.out (fun _ hk => hk.2))) | (show (Addr.add _ _).block ≠ _; rw [add_block]; exact Kd.own_blk (Kd.R_away HO_5.out (fun _ hk => hk.2))) | (dsimp only; exact Kd.own_blk (Kd.R_away HO_5.out (fun _ hk => hk.2)))) _).trans (hHeld.2.1)))), ((cell_far (p := ⟨gb556, _, none⟩) (by first | exact Nat.ne_of_lt (Nat.lt_of_lt_of_le (by have := World.block_lt_of_cell? _ _ hw553_0; first | rwa [add_block] at this | exact this) GW556.out) | (rw [add_block]; exact Nat.ne_of_lt (Nat.lt_of_lt_of_le (by have := World.block_lt_of_cell? _ _ hw553_0; first | rwa [add_block] at this | exact this) GW556.out)) | (show (Addr.add _ _).block ≠ _; rw [add_block]; exact Nat.ne_of_lt (Nat.lt_of_lt_of_le (by have := World.block_lt_of_cell? _ _ hw553_0; first | rwa [add_block] at this | exact this) GW556.out)) | (dsimp only; exact Nat.ne_of_lt (Nat.lt_of_lt_of_le (by have := World.block_lt_of_cell? _ _ hw553_0; first | rwa [add_block] at this | exact this) GW556.out))) _).trans (((cell_far (p := ⟨gb556, _, none⟩) (by first | exact Nat.ne_of_lt (Nat.lt_of_lt_of_le (by have := World.block_lt_of_cell? _ _ hw553_0; first | rwa [add_block] at this | exact this) GW556.out) | (rw [add_block]; exact Nat.ne_of_lt (Nat.lt_of_lt_of_le (by have := World.block_lt_of_cell? _ _ hw553_0; first | rwa [add_block] at this | exact this) GW556.out)) | (show (Addr.add _ _).block ≠ _; rw [add_block]; exact Nat.ne_of_lt (Nat.lt_of_lt_of_le (by have := World.block_lt_of_cell? _ _ hw553_0; first | rwa [add_block] at this | exact this) GW556.out)) | (dsimp only; exact Nat.ne_of_lt (Nat.lt_of_lt_of_le (by have := World.block_lt_of_cell? _ _ hw553_0; first | rwa [add_block] at this | exact this) GW556.out))) _).trans (hHeld.2.2.1)))), ((cell_far (p := ⟨gb556, _, none⟩) (by first | exact Nat.ne_of_lt (Nat.lt_of_lt_of_le (by have := World.block_lt_of_cell? _ _ hw553_1; first | rwa [add_block] at this | exact this) GW556.out) | (rw [add_block]; exact Nat.ne_of_lt (Nat.lt_of_lt_of_le (by have := World.block_lt_of_cell? _ _ hw553_1; first | rwa [add_block] at this | exact this) GW556.out)) | (show (Addr.add _ _).block ≠ _; rw [add_block]; exact Nat.ne_of_lt (Nat.lt_of_lt_of_le (by have := World.block_lt_of_cell? _ _ hw553_1; first | rwa [add_block] at this | exact this) GW556.out)) | (dsimp only; exact Nat.ne_of_lt (Nat.lt_of_lt_of_le (by have := World.block_lt_of_cell? _ _ hw553_1; first | rwa [add_block] at this | exact this) GW556.out))) _).trans (((cell_far (p := ⟨gb556, _, none⟩) (by first | exact Nat.ne_of_lt (Nat.lt_of_lt_of_le (by have := World.block_lt_of_cell? _ _ hw553_1; first | rwa [add_block] at this | exact this) GW556.out) | (rw [add_block]; exact Nat.ne_of_lt (Nat.lt_of_lt_of_le (by have := World.block_lt_of_cell? _ _ hw553_1; first | rwa [add_block] at this | exact this) GW556.out)) | (show (Addr.add _ _).block ≠ _; rw [add_block]; exact Nat.ne_of_lt (Nat.lt_of_lt_of_le (by have := World.block_lt_of_cell? _ _ hw553_1; first | rwa [add_block] at this | exact this) GW556.out)) | (dsimp only; exact Nat.ne_of_lt (Nat.lt_of_lt_of_le (by have := World.block_lt_of_cell? _ _ hw553_1; first | rwa [add_block] at this | exact this) GW556.out))) _).trans (hHeld.2.2.2.1)))), ((cell_far (p := ⟨gb556, _, none⟩) (by first | exact Kd.own_blk (Kd.R_away HO_5.out (fun _ hk => hk.2)) | (rw [add_block]; exact Kd.own_blk (Kd.R_away HO_5.out (fun _ hk => hk.2))) | (show (Addr.add _ _).block ≠ _; rw [add_block]; exact Kd.own_blk (Kd.R_away HO_5.out (fun _ hk => hk.2))) | (dsimp only; exact Kd.own_blk (Kd.R_away HO_5.out (fun _ hk => hk.2)))) _).trans (((cell_far (p := ⟨gb556, _, none⟩) (by first | exact Kd.own_blk (Kd.R_away HO_5.out (fun _ hk => hk.2)) | (rw [add_block]; exact Kd.own_blk (Kd.R_away HO_5.out (fun _ hk => hk.2))) | (show (Addr.add _ _).block ≠ _; rw [add_block]; exact Kd.own_blk (Kd.R_away HO_5.out (fun _ hk => hk.2))) | (dsimp only; exact Kd.own_blk (Kd.R_away HO_5.out (fun _ hk => hk.2)))) _).trans (hHeld.2.2.2.2.1)))), ((cell_far (p := ⟨gb556, _, none⟩) (by first | exact Kd.own_blk (Kd.R_away HO_5.out (fun _ hk => hk.2)) | (rw [add_block]; exact Kd.own_blk (Kd.R_away HO_5.out (fun _ hk => hk.2))) | (show (Addr.add _ _).block ≠ _; rw [add_block]; exact Kd.own_blk (Kd.R_away HO_5.out (fun _ hk => hk.2))) | (dsimp only; exact Kd.own_blk (Kd.R_away HO_5.out (fun _ hk => hk.2)))) _).trans (((cell_far (p := ⟨gb556, _, none⟩) (by first | exact Kd.own_blk (Kd.R_away HO_5.out (fun _ hk => hk.2)) | (rw [add_block]; exact Kd.own_blk (Kd.R_away HO_5.out (fun _ hk => hk.2))) | (show (Addr.add _ _).block ≠ _; rw [add_block]; exact Kd.own_blk (Kd.R_away HO_5.out (fun _ hk => hk.2))) | (dsimp only; exact Kd.own_blk (Kd.R_away HO_5.out (fun _ hk => hk.2)))) _).trans (hHeld.2.2.2.2.2.1)))), ((cell_far (p := ⟨gb556, _, none⟩) (by first | exact Nat.ne_of_lt (Nat.lt_of_lt_of_le (by have := World.block_lt_of_cell? _ _ hw555_0; first | rwa [add_block] at this | exact this) GW556.out) | (rw [add_block]; exact Nat.ne_of_lt (Nat.lt_of_lt_of_le (by have := World.block_lt_of_cell? _ _ hw555_0; first | rwa [add_block] at this | exact this) GW556.out)) | (show (Addr.add _ _).block ≠ _; rw [add_block]; exact Nat.ne_of_lt (Nat.lt_of_lt_of_le (by have := World.block_lt_of_cell? _ _ hw555_0; first | rwa [add_block] at this | exact this) GW556.out)) | (dsimp only; exact Nat.ne_of_lt (Nat.lt_of_lt_of_le (by have := World.block_lt_of_cell? _ _ hw555_0; first | rwa [add_block] at this | exact this) GW556.out))) _).trans (((cell_far (p := ⟨gb556, _, none⟩) (by first | exact Nat.ne_of_lt (Nat.lt_of_lt_of_le (by have := World.block_lt_of_cell? _ _ hw555_0; first | rwa [add_block] at this | exact this) GW556.out) | (rw [add_block]; exact Nat.ne_of_lt (Nat.lt_of_lt_of_le (by have := World.block_lt_of_cell? _ _ hw555_0; first | rwa [add_block] at this | exact this) GW556.out)) | (show (Addr.add _ _).block ≠ _; rw [add_block]; exact Nat.ne_of_lt (Nat.lt_of_lt_of_le (by have := World.block_lt_of_cell? _ _ hw555_0; first | rwa [add_block] at this | exact this) GW556.out)) | (dsimp only; exact Nat.ne_of_lt (Nat.lt_of_lt_of_le (by have := World.block_lt_of_cell? _ _ hw555_0; first | rwa [add_block] at this | exact this) GW556.out))) _).trans (hHeld.2.2.2.2.2.2.1)))), ((cell_far (p := ⟨gb556, _, none⟩) (by first | exact Nat.ne_of_lt (Nat.lt_of_lt_of_le (by have := World.block_lt_of_cell? _ _ hw555_1; first | rwa [add_block] at this | exact this) GW556.out) | (rw [add_block]; exact Nat.ne_of_lt (Nat.lt_of_lt_of_le (by have := World.block_lt_of_cell? _ _ hw555_1; first | rwa [add_block] at this | exact this) GW556.out)) | (show (Addr.add _ _).block ≠ _; rw [add_block]; exact Nat.ne_of_lt (Nat.lt_of_lt_of_le (by have := World.block_lt_of_cell? _ _ hw555_1; first | rwa [add_block] at this | exact this) GW556.out)) | (dsimp only; exact Nat.ne_of_lt (Nat.lt_of_lt_of_le (by have := World.block_lt_of_cell? _ _ hw555_1; first | rwa [add_block] at this | exact this) GW556.out))) _).trans (((cell_far (p := ⟨gb556, _, none⟩) (by first | exact Nat.ne_of_lt (Nat.lt_of_lt_of_le (by have := World.block_lt_of_cell? _ _ hw555_1; first | rwa [add_block] at this | exact this) GW556.out) | (rw [add_block]; exact Nat.ne_of_lt (Nat.lt_of_lt_of_le (by have := World.block_lt_of_cell? _ _ hw555_1; first | rwa [add_block] at this | exact this) GW556.out)) | (show (Addr.add _ _).block ≠ _; rw [add_block]; exact Nat.ne_of_lt (Nat.lt_of_lt_of_le (by have := World.block_lt_of_cell? _ _ hw555_1; first | rwa [add_block] at this | exact this) GW556.out)) | (dsimp only; exact Nat.ne_of_lt (Nat.lt_of_lt_of_le (by have := World.block_lt_of_cell? _ _ hw555_1; first | rwa [add_block] at this | exact this) GW556.out))) _).trans (hHeld.2.2.2.2.2.2.2))))⟩ (fun hHeld => ?_)
         clear hK K
         refine done_ (done_of HT_.out (by kernel_rfl)) ?_
         have n0_ : Aside0 (Kd.R k38 38 ((w17.setCell ⟨gb556, 0, none⟩ (.int .i64 ji12)).setCell ⟨gb556, 1, none⟩ (.int .i64 ji13)) w.heap.size (fun k_ => k_ ≠ gb556) (.slice (some ad552) x5_1.length co7) x5_1) := ⟨by (with_reducible repeat (first | apply Kd.R_alloc | apply Kd.R_drewN | apply Kd.R_drew)); exact Kd.R_mono (Kd.R_far (p := ⟨gb556, 1, none⟩) (Kd.R_far (p := ⟨gb556, 0, none⟩) (Kd.R_mono HO_5.out (fun k_ hk => (⟨hk, hk.2⟩ : _ ∧ k_ ≠ gb556))) (fun _ hk => hk.2) (.int .i64 ji12)) (fun _ hk => hk.2) (.int .i64 ji13)) (fun _ hk => hk.1.2)⟩
         have n1_ : Aside0 (((w17.setCell ⟨gb556, 0, none⟩ (.int .i64 ji12)).setCell ⟨gb556, 1, none⟩ (.int .i64 ji13)).heap[gb556]? = some (.cells #[.int .i64 ji12, .int .i64 ji13] 38 (0, 0))) := ⟨by (with_reducible repeat (first | refine blk_drewN ?_ _ | refine blk_drew ?_ | refine blk_alloc ?_ _)); refine blk_put (cs := #[.int .i64 ji12, .int .i64 0]) ?_ 1 _ rfl; (with_reducible repeat (first | refine blk_drewN ?_ _ | refine blk_drew ?_ | refine blk_alloc ?_ _)); refine blk_put (cs := #[.int .i64 0, .int .i64 0]) ?_ 0 _ rfl; (with_reducible repeat (first | refine blk_drewN ?_ _ | refine blk_drew ?_ | refine blk_alloc ?_ _)); exact BK556.out⟩
         have n2_ : Aside0 (Below w.heap.size w ((w17.setCell ⟨gb556, 0, none⟩ (.int .i64 ji12)).setCell ⟨gb556, 1, none⟩ (.int .i64 ji13))) := ⟨by repeat (first | (with_reducible first | exact HB.out | apply below_alloc | apply pw_below_drewN | apply below_drew1 | refine below_set ?_ GE556.out) | exact HB.out)⟩
         (try clear HO_5)
         (try clear BK556)
         (try clear HB)
         generalize ((w17.setCell ⟨gb556, 0, none⟩ (.int .i64 ji12)).setCell ⟨gb556, 1, none⟩ (.int .i64 ji13)) = w20 at n0_ n1_ n2_ ⊢
         have HO_5 := n0_
         have BK556 := n1_
         have HB := n2_
         clear n0_ n1_ n2_
         have hcz21_0 : w20.cell? ⟨gb556, 0, none⟩ = some (.int .i64 ji12) := (blk_cell BK556.out 0).trans rfl
         have hcz21_1 : w20.cell? ⟨gb556, 1, none⟩ = some (.int .i64 ji13) := (blk_cell BK556.out 1).trans rfl
         have hfz21_0 := blk_frozen BK556.out 0
         have hfz21_1 := blk_frozen BK556.out 1
         have p15 : 0 ≤ (x13_1 : Int) := od_
         have q15 : (x13_1 : Int) < ((x5_1.length : Int) : Int) := od_
         obtain ⟨go15, co15, eo15, gb15, gl15, cl15, HG15⟩ := Kd.R_form HO_5.out (by omega)
         (first | cases eo15 | (injection eo15 with ea_ en_ ec_; (first | subst ea_ | (injection ea_ with ea_; subst ea_)); subst ec_; clear en_))
         have GB15 := Aside0.mk gb15
         have GG15 := Aside0.mk HG15
         clear gb15 gl15 HG15
         (first | simp only [add_plain] at hx552_0 | skip)
         (first | simp only [add_plain] at hx552_1 | skip)
         (first | simp only [add_plain] at hx554_0 | skip)
         (first | simp only [add_plain] at hx554_1 | skip)
         obtain ⟨ce15, hcl15, hM15, hcc15, hfr15⟩ := Kd.R_elem HO_5.out z38 (x13_1 : Int) p15 q15
         obtain rfl := k38_openM hM15
         have hx15_0 : w20.cell? ⟨go15, (x13_1 : Int).toNat * 2, none⟩ = some (.int .i64 ((rd_T38 x5_1 x13_1).f0)) := hcc15 0 _ rfl
         have hx15_1 : w20.cell? ⟨go15, (x13_1 : Int).toNat * 2 + 1, none⟩ = some (.int .i64 ((rd_T38 x5_1 x13_1).f1)) := hcc15 1 _ rfl
         have hf15_0 : w20.frozen? ⟨go15, (x13_1 : Int).toNat * 2, none⟩ = false := hfr15 0
         have hf15_1 : w20.frozen? ⟨go15, (x13_1 : Int).toNat * 2 + 1, none⟩ = false := hfr15 1
         clear hcl15 hcc15 hfr15 hM15
         replace p15 := eq_true p15
         replace q15 := eq_true q15
         have HX22 := Aside0.mk (show Kd.R k38 38 w20 w.heap.size (fun k_ => k_ ≠ gb556) (.slice (some ⟨go15, 0, none⟩) x5_1.length co7) x5_1 from (rr_ HO_5))
         obtain ⟨ce22, hcl22, hM22, hcc22, hfr22⟩ := Kd.R_elem HX22.out z38 (x13_1 : Int) (od_) (by have h_ : (x13_1 : Int) < ((x5_1.length : Int) : Int) := od_; first | exact h_ | (have e_ := (Kd.R_reads' HO_5.out).1; omega) | simpa using h_)
         obtain rfl := k38_openM hM22
         have HP22 := Kd.R_seg HX22.out (x13_1 : Int) (od_) (by have h_ : (x13_1 : Int) < ((x5_1.length : Int) : Int) := od_; first | exact h_ | (have e_ := (Kd.R_reads' HO_5.out).1; omega) | simpa using h_) (seg := [.int .i64 ji12, .int .i64 ji13]) (j := 0) hcl22 hcc22 (show 2 ≤ 2 from by decide) (x' := (⟨ji12, ji13⟩ : S38)) (k38_mkM _ _ _ (⟨ji12, ji13⟩ : S38) ) (fun _ hk => hk)
         have hx22_0 := hcc22 0 _ rfl
         (try simp only [show (k38).sz = 2 from rfl, Nat.mul_one, Nat.add_zero] at hx22_0)
         have hf22_0 := hfr22 0
         (try simp only [show (k38).sz = 2 from rfl, Nat.mul_one, Nat.add_zero] at hf22_0)
         have hx22_1 := hcc22 1 _ rfl
         (try simp only [show (k38).sz = 2 from rfl, Nat.mul_one, Nat.add_zero] at hx22_1)
         have hf22_1 := hfr22 1
         (try simp only [show (k38).sz = 2 from rfl, Nat.mul_one, Nat.add_zero] at hf22_1)
         clear hcl22 hcc22 hfr22 hM22
         try go_wp2_with (first | ((with_reducible refine gate_store (t := 38) (p := 51) rfl ?_); refine store_event (t := 38) (p := 51) (v := ?vo_w23) (w1 := ((w20.setCell ⟨go15, (x13_1 : Int).toNat * 2, none⟩ (.int .i64 ji12)).setCell ⟨go15, (x13_1 : Int).toNat * 2 + 1, none⟩ (.int .i64 ji13))) ?hg ?ho ?hn ?hr ?_; (case ho => rfl); (case hg => rfl); (case hn => rfl); (case hr => first | (go_simp; done) | (go_simp; rfl)); intro w23 hw; have hg : w20.grownBy w23 (some go15) := (by rw [hw]; exact HP22.2); have hp_ : Kd.R k38 38 w23 w.heap.size (fun k_ => k_ ≠ gb556) (.slice (some ⟨go15, 0, none⟩) x5_1.length co7) y557 := (by rw [hw, Ny557.out]; exact HP22.1); clear HP22; have n0_ := Aside0.mk (hp_); have n1_ := Aside0.mk (blk_grown (g := gb556) (o := .cells #[.int .i64 ji12, .int .i64 ji13] 38 (0, 0)) (kk_ BK556) hg (Kd.R_away HO_5.out (fun _ hk => hk))); have n2_ := Aside0.mk ((by rw [hw]; exact below_set (below_set (HB.out) GB15.out) GB15.out : Below w.heap.size w w23)); clear HO_5; clear BK556; clear HB; have HO_5 := n0_; have BK556 := n1_; have HB := n2_; clear n0_ n1_ n2_; clear hg hw hp_))
         (try simp only [← hl5_1])
         go_roundg k1
         case measure => have := HK1.out; omega
         case rel => exact ⟨(y557), (wrap64 (x13_1 + 1)), sd_, H', ⟨by have := HK1.out; omega⟩, ⟨by (try simp only [hl5_1]); (with_reducible repeat (first | apply Kd.R_alloc | apply Kd.R_drewN | apply Kd.R_drew)); exact Kd.R_mono HO_5.out (fun _ hk => trivial)⟩, ⟨by repeat (first | (with_reducible first | exact HB.out | apply below_alloc | apply pw_below_drewN | apply below_drew1 | refine below_set ?_ GE556.out) | exact HB.out)⟩⟩
        ·rw [if_neg c14] at H
         have c14b0 : decide ((ji12) ≤ (ji13)) = false := decide_eq_false c14
         clear c14
         have H' := Aside0.mk H
         clear H
         try go_wp2
         have n0_ := Aside0.mk (Kd.R_drew HO_5.out)
         have n1_ := Aside0.mk (below_drew1 HB.out)
         clear HO_5
         clear HB
         have HO_5 := n0_
         have HB := n1_
         clear n0_ n1_
         have p552 : 0 ≤ (x13_1 : Int) := od_
         have q552 : x13_1 < (x5_1.length : Int) := od_
         obtain ⟨ad552, e552, hx552_0, hx552_1⟩ := at_T38 (Kd.R_reads' HO_5.out).2.2 x13_1 p552 q552
         cases e552
         replace p552 := eq_true p552
         replace q552 := eq_true q552
         have p553 : 0 ≤ (x13_1 : Int) := od_
         have q553 : x13_1 < (l1.length : Int) := od_
         obtain ⟨ad553, e553, hx553_0, hx553_1⟩ := at_T38 HR1.out x13_1 p553 q553
         have hw553_1 := hx553_1
         have hw553_0 := hx553_0
         cases e553
         replace hx553_0 := (HB.out.cell (World.block_lt_of_cell? w _ hx553_0)).trans hx553_0
         replace hx553_1 := (HB.out.cell (World.block_lt_of_cell? w _ hx553_1)).trans hx553_1
         replace p553 := eq_true p553
         replace q553 := eq_true q553
         have p554 : 0 ≤ (x13_1 : Int) := od_
         have q554 : x13_1 < (x5_1.length : Int) := od_
         obtain ⟨ad554, e554, hx554_0, hx554_1⟩ := at_T38 (Kd.R_reads' HO_5.out).2.2 x13_1 p554 q554
         obtain rfl : ad552 = ad554 := (by injection e554)
         replace p554 := eq_true p554
         replace q554 := eq_true q554
         have p555 : 0 ≤ (x13_1 : Int) := od_
         have q555 : x13_1 < (l1.length : Int) := od_
         obtain ⟨ad555, e555, hx555_0, hx555_1⟩ := at_T38 HR1.out x13_1 p555 q555
         have hw555_1 := hx555_1
         have hw555_0 := hx555_0
         obtain rfl : ad553 = ad555 := (by injection e555)
         replace hx555_0 := (HB.out.cell (World.block_lt_of_cell? w _ hx555_0)).trans hx555_0
         replace hx555_1 := (HB.out.cell (World.block_lt_of_cell? w _ hx555_1)).trans hx555_1
         replace p555 := eq_true p555
         replace q555 := eq_true q555
         refine start_ (n := 25) (S := fun w' => w'.cell? (ad552.add ((x13_1).toNat * 2)) = some (.int .i64 ((rd_T38 x5_1 x13_1).f0)) ∧ w'.cell? ⟨(ad552.add ((x13_1).toNat * 2)).block, (ad552.add ((x13_1).toNat * 2)).off + 1, none⟩ = some (.int .i64 ((rd_T38 x5_1 x13_1).f1)) ∧ w'.cell? (ad553.add ((x13_1).toNat * 2)) = some (.int .i64 ((rd_T38 l1 x13_1).f0)) ∧ w'.cell? ⟨(ad553.add ((x13_1).toNat * 2)).block, (ad553.add ((x13_1).toNat * 2)).off + 1, none⟩ = some (.int .i64 ((rd_T38 l1 x13_1).f1)) ∧ w'.cell? (ad552.add ((x13_1).toNat * 2)) = some (.int .i64 ((rd_T38 x5_1 x13_1).f0)) ∧ w'.cell? ⟨(ad552.add ((x13_1).toNat * 2)).block, (ad552.add ((x13_1).toNat * 2)).off + 1, none⟩ = some (.int .i64 ((rd_T38 x5_1 x13_1).f1)) ∧ w'.cell? (ad553.add ((x13_1).toNat * 2)) = some (.int .i64 ((rd_T38 l1 x13_1).f0)) ∧ w'.cell? ⟨(ad553.add ((x13_1).toNat * 2)).block, (ad553.add ((x13_1).toNat * 2)).off + 1, none⟩ = some (.int .i64 ((rd_T38 l1 x13_1).f1))) (ds := []) #[n_, n_, n_, n_, n_, n_, n_, n_, n_, n_, n_, n_, n_, n_, n_, n_, n_, n_, n_, n_, n_, n_, n_, n_, n_] (by kernel_rfl) rfl rfl ⟨hx552_0, hx552_1, ((HB.out.cell (World.block_lt_of_cell? w _ hw553_0)).trans hw553_0), ((HB.out.cell (World.block_lt_of_cell? w _ hw553_1)).trans hw553_1), hx554_0, hx554_1, ((HB.out.cell (World.block_lt_of_cell? w _ hw555_0)).trans hw555_0), ((HB.out.cell (World.block_lt_of_cell? w _ hw555_1)).trans hw555_1)⟩ (fun hHeld => ?_); refine with_tabW cohousingtop_w17Cut.tab6 cohousingtop_w17Cut.bits6 (fun HT_ HW_ => ?_)
         generalize wr.drew = w24 at HO_5 HB hx552_0 hx552_1 hx553_0 hx553_1 hx554_0 hx554_1 hx555_0 hx555_1 hHeld ⊢
         refine pu_ 0 20 (w_ 25 1) rfl HT_ ?_
         refine pu_ 1 21 (w_ 25 3) rfl HT_ ?_
         refine pu_ 2 22 (w_ 25 7) rfl HT_ ?_
         refine pu_ 3 23 (w_ 25 15) rfl HT_ ?_
         refine pu_ 5 25 (w_ 25 47) rfl HT_ ?_
         refine pu_ 6 26 (w_ 25 111) rfl HT_ ?_
         refine pu_ 7 27 (w_ 25 239) rfl HT_ ?_
         refine pu_ 8 28 (w_ 25 495) rfl HT_ ?_
         refine pu_ 11 31 (w_ 25 2543) rfl HT_ ?_
         refine pu_ 12 32 (w_ 25 6639) rfl HT_ ?_
         refine pu_ 13 33 (w_ 25 14831) rfl HT_ ?_
         refine pu_ 14 34 (w_ 25 31215) rfl HT_ ?_
         refine pu_ 16 36 (w_ 25 96751) rfl HT_ ?_
         refine pu_ 17 37 (w_ 25 227823) rfl HT_ ?_
         refine pu_ 18 38 (w_ 25 489967) rfl HT_ ?_
         refine pu_ 19 39 (w_ 25 1014255) rfl HT_ ?_
         refine ta_ 4 24 (w_ 25 1014271) rfl HT_ HW_ hHeld (by rintro w' ⟨s0, s1, s2, s3, s4, s5, s6, s7⟩; go_simp; with_reducible rfl) ?_
         refine ta_ 9 29 (w_ 25 1014783) rfl HT_ HW_ hHeld (by rintro w' ⟨s0, s1, s2, s3, s4, s5, s6, s7⟩; go_simp; with_reducible rfl) ?_
         refine pu_ 10 30 (w_ 25 1015807) rfl HT_ ?_
         refine ta_ 15 35 (w_ 25 1048575) rfl HT_ HW_ hHeld (by rintro w' ⟨s0, s1, s2, s3, s4, s5, s6, s7⟩; go_simp; with_reducible rfl) ?_
         refine ta_ 20 40 (w_ 25 2097151) rfl HT_ HW_ hHeld (by rintro w' ⟨s0, s1, s2, s3, s4, s5, s6, s7⟩; go_simp; with_reducible rfl) ?_
         refine pu_ 21 41 (w_ 25 4194303) rfl HT_ ?_
         refine pu_ 22 42 (w_ 25 8388607) rfl HT_ ?_
         refine one_ (i := 23) (N := some 7) (w_ 25 16777215) rfl rfl (one_of HT_.out (by kernel_rfl)) (by decide) (fun K hK => ?_)
         refine box_step ?hg (N := 7) ?hd (cs := #[.int .i64 0, .int .i64 0]) (t := 38) ?hr ?_; (case hd => rfl); (case hg => rfl); (case hr => first | (go_simp; done) | (go_simp; rfl))
         intro gb556 hg w25 hbox hb
         have HS0_ := (hb.cell (World.block_lt_of_cell? _ _ (hHeld.1))).trans (hHeld.1)
         have HS1_ := (hb.cell (World.block_lt_of_cell? _ _ (hHeld.2.1))).trans (hHeld.2.1)
         have HS4_ := (hb.cell (World.block_lt_of_cell? _ _ (hHeld.2.2.2.2.1))).trans (hHeld.2.2.2.2.1)
         have HS5_ := (hb.cell (World.block_lt_of_cell? _ _ (hHeld.2.2.2.2.2.1))).trans (hHeld.2.2.2.2.2.1)
         have n0_ := Aside0.mk (Kd.R_below (Kd.R_elderB (rr_ HO_5) gb556 (Nat.le_of_eq hg.symm)) hb)
         have n1_ := Aside0.mk (below_step (bb_ HB) hb)
         have n2_ := Aside0.mk (hbox)
         have n3_ := Aside0.mk ((by rw [hg]; exact (below_size (bb_ HB)) : w.heap.size ≤ gb556))
         have n4_ := Aside0.mk ((by rw [hg]; exact (below_size (bb_ HB)) : w.heap.size ≤ gb556))
         clear HO_5
         clear HB
         have HO_5 := n0_
         have HB := n1_
         have BK556 := n2_
         have GW556 := n3_
         have GE556 := n4_
         clear n0_ n1_ n2_ n3_ n4_
         clear hb hbox hg
         refine hK.out _ _ ⟨HS0_, HS1_, ((HB.out.cell (World.block_lt_of_cell? w _ hw553_0)).trans hw553_0), ((HB.out.cell (World.block_lt_of_cell? w _ hw553_1)).trans hw553_1), HS4_, HS5_, ((HB.out.cell (World.block_lt_of_cell? w _ hw555_0)).trans hw555_0), ((HB.out.cell (World.block_lt_of_cell? w _ hw555_1)).trans hw555_1)⟩ (fun hHeld => ?_)
         clear hK K
         refine norm_ (a' := ?_) ?_ ?_
         rotate_left
         ·show Act.put _ (some 7) _ = _
          simp only [Act.put, sI_, s0_, sS_, i64_w, i32_w]
          rfl
         refine one_ (i := 24) (N := none) (w_ 25 33554431) rfl rfl (one_of HT_.out (by kernel_rfl)) (by decide) (fun K hK => ?_)
         have hs26 : w25.cell? ⟨gb556, 0, none⟩ = some (.int .i64 0) := (blk_cell BK556.out 0).trans rfl
         have hfs26 := blk_frozen BK556.out 0
         have hs27 : w25.cell? ⟨gb556, 1, none⟩ = some (.int .i64 0) := (blk_cell BK556.out 1).trans rfl
         have hfs27 := blk_frozen BK556.out 1
         refine skip_ (w1 := ?_) (by rfl) rfl ?_ ?_
         rotate_left
         ·go_simp
          rfl
         refine hK.out _ _ ⟨((cell_far (p := ⟨gb556, _, none⟩) (by first | exact Kd.own_blk (Kd.R_away HO_5.out (fun _ hk => hk.2)) | (rw [add_block]; exact Kd.own_blk (Kd.R_away HO_5.out (fun _ hk => hk.2))) | (show (Addr.add _ _).block ≠ _; rw [add_block]; exact Kd.own_blk (Kd.R_away HO_5.out (fun _ hk => hk.2))) | (dsimp only; exact Kd.own_blk (Kd.R_away HO_5.out (fun _ hk => hk.2)))) _).trans (((cell_far (p := ⟨gb556, _, none⟩) (by first | exact Kd.own_blk (Kd.R_away HO_5.out (fun _ hk => hk.2)) | (rw [add_block]; exact Kd.own_blk (Kd.R_away HO_5.out (fun _ hk => hk.2))) | (show (Addr.add _ _).block ≠ _; rw [add_block]; exact Kd.own_blk (Kd.R_away HO_5.out (fun _ hk => hk.2))) | (dsimp only; exact Kd.own_blk (Kd.R_away HO_5.out (fun _ hk => hk.2)))) _).trans (hHeld.1)))), ((cell_far (p := ⟨gb556, _, none⟩) (by first | exact Kd.own_blk (Kd.R_away HO_5.out (fun _ hk => hk.2)) | (rw [add_block]; exact Kd.own_blk (Kd.R_away HO_5.out (fun _ hk => hk.2))) | (show (Addr.add _ _).block ≠ _; rw [add_block]; exact Kd.own_blk (Kd.R_away HO_5.out (fun _ hk => hk.2))) | (dsimp only; exact Kd.own_blk (Kd.R_away HO_5.out (fun _ hk => hk.2)))) _).trans (((cell_far (p := ⟨gb556, _, none⟩) (by first | exact Kd.own_blk (Kd.R_away HO_5.out (fun _ hk => hk.2)) | (rw [add_block]; exact Kd.own_blk (Kd.R_away HO_5.out (fun _ hk => hk.2))) | (show (Addr.add _ _).block ≠ _; rw [add_block]; exact Kd.own_blk (Kd.R_away HO_5.out (fun _ hk => hk.2))) | (dsimp only; exact Kd.own_blk (Kd.R_away HO_5.out (fun _ hk => hk.2)))) _).trans (hHeld.2.1)))), ((cell_far (p := ⟨gb556, _, none⟩) (by first | exact Nat.ne_of_lt (Nat.lt_of_lt_of_le (by have := World.block_lt_of_cell? _ _ hw553_0; first | rwa [add_block] at this | exact this) GW556.out) | (rw [add_block]; exact Nat.ne_of_lt (Nat.lt_of_lt_of_le (by have := World.block_lt_of_cell? _ _ hw553_0; first | rwa [add_block] at this | exact this) GW556.out)) | (show (Addr.add _ _).block ≠ _; rw [add_block]; exact Nat.ne_of_lt (Nat.lt_of_lt_of_le (by have := World.block_lt_of_cell? _ _ hw553_0; first | rwa [add_block] at this | exact this) GW556.out)) | (dsimp only; exact Nat.ne_of_lt (Nat.lt_of_lt_of_le (by have := World.block_lt_of_cell? _ _ hw553_0; first | rwa [add_block] at this | exact this) GW556.out))) _).trans (((cell_far (p := ⟨gb556, _, none⟩) (by first | exact Nat.ne_of_lt (Nat.lt_of_lt_of_le (by have := World.block_lt_of_cell? _ _ hw553_0; first | rwa [add_block] at this | exact this) GW556.out) | (rw [add_block]; exact Nat.ne_of_lt (Nat.lt_of_lt_of_le (by have := World.block_lt_of_cell? _ _ hw553_0; first | rwa [add_block] at this | exact this) GW556.out)) | (show (Addr.add _ _).block ≠ _; rw [add_block]; exact Nat.ne_of_lt (Nat.lt_of_lt_of_le (by have := World.block_lt_of_cell? _ _ hw553_0; first | rwa [add_block] at this | exact this) GW556.out)) | (dsimp only; exact Nat.ne_of_lt (Nat.lt_of_lt_of_le (by have := World.block_lt_of_cell? _ _ hw553_0; first | rwa [add_block] at this | exact this) GW556.out))) _).trans (hHeld.2.2.1)))), ((cell_far (p := ⟨gb556, _, none⟩) (by first | exact Nat.ne_of_lt (Nat.lt_of_lt_of_le (by have := World.block_lt_of_cell? _ _ hw553_1; first | rwa [add_block] at this | exact this) GW556.out) | (rw [add_block]; exact Nat.ne_of_lt (Nat.lt_of_lt_of_le (by have := World.block_lt_of_cell? _ _ hw553_1; first | rwa [add_block] at this | exact this) GW556.out)) | (show (Addr.add _ _).block ≠ _; rw [add_block]; exact Nat.ne_of_lt (Nat.lt_of_lt_of_le (by have := World.block_lt_of_cell? _ _ hw553_1; first | rwa [add_block] at this | exact this) GW556.out)) | (dsimp only; exact Nat.ne_of_lt (Nat.lt_of_lt_of_le (by have := World.block_lt_of_cell? _ _ hw553_1; first | rwa [add_block] at this | exact this) GW556.out))) _).trans (((cell_far (p := ⟨gb556, _, none⟩) (by first | exact Nat.ne_of_lt (Nat.lt_of_lt_of_le (by have := World.block_lt_of_cell? _ _ hw553_1; first | rwa [add_block] at this | exact this) GW556.out) | (rw [add_block]; exact Nat.ne_of_lt (Nat.lt_of_lt_of_le (by have := World.block_lt_of_cell? _ _ hw553_1; first | rwa [add_block] at this | exact this) GW556.out)) | (show (Addr.add _ _).block ≠ _; rw [add_block]; exact Nat.ne_of_lt (Nat.lt_of_lt_of_le (by have := World.block_lt_of_cell? _ _ hw553_1; first | rwa [add_block] at this | exact this) GW556.out)) | (dsimp only; exact Nat.ne_of_lt (Nat.lt_of_lt_of_le (by have := World.block_lt_of_cell? _ _ hw553_1; first | rwa [add_block] at this | exact this) GW556.out))) _).trans (hHeld.2.2.2.1)))), ((cell_far (p := ⟨gb556, _, none⟩) (by first | exact Kd.own_blk (Kd.R_away HO_5.out (fun _ hk => hk.2)) | (rw [add_block]; exact Kd.own_blk (Kd.R_away HO_5.out (fun _ hk => hk.2))) | (show (Addr.add _ _).block ≠ _; rw [add_block]; exact Kd.own_blk (Kd.R_away HO_5.out (fun _ hk => hk.2))) | (dsimp only; exact Kd.own_blk (Kd.R_away HO_5.out (fun _ hk => hk.2)))) _).trans (((cell_far (p := ⟨gb556, _, none⟩) (by first | exact Kd.own_blk (Kd.R_away HO_5.out (fun _ hk => hk.2)) | (rw [add_block]; exact Kd.own_blk (Kd.R_away HO_5.out (fun _ hk => hk.2))) | (show (Addr.add _ _).block ≠ _; rw [add_block]; exact Kd.own_blk (Kd.R_away HO_5.out (fun _ hk => hk.2))) | (dsimp only; exact Kd.own_blk (Kd.R_away HO_5.out (fun _ hk => hk.2)))) _).trans (hHeld.2.2.2.2.1)))), ((cell_far (p := ⟨gb556, _, none⟩) (by first | exact Kd.own_blk (Kd.R_away HO_5.out (fun _ hk => hk.2)) | (rw [add_block]; exact Kd.own_blk (Kd.R_away HO_5.out (fun _ hk => hk.2))) | (show (Addr.add _ _).block ≠ _; rw [add_block]; exact Kd.own_blk (Kd.R_away HO_5.out (fun _ hk => hk.2))) | (dsimp only; exact Kd.own_blk (Kd.R_away HO_5.out (fun _ hk => hk.2)))) _).trans (((cell_far (p := ⟨gb556, _, none⟩) (by first | exact Kd.own_blk (Kd.R_away HO_5.out (fun _ hk => hk.2)) | (rw [add_block]; exact Kd.own_blk (Kd.R_away HO_5.out (fun _ hk => hk.2))) | (show (Addr.add _ _).block ≠ _; rw [add_block]; exact Kd.own_blk (Kd.R_away HO_5.out (fun _ hk => hk.2))) | (dsimp only; exact Kd.own_blk (Kd.R_away HO_5.out (fun _ hk => hk.2)))) _).trans (hHeld.2.2.2.2.2.1)))), ((cell_far (p := ⟨gb556, _, none⟩) (by first | exact Nat.ne_of_lt (Nat.lt_of_lt_of_le (by have := World.block_lt_of_cell? _ _ hw555_0; first | rwa [add_block] at this | exact this) GW556.out) | (rw [add_block]; exact Nat.ne_of_lt (Nat.lt_of_lt_of_le (by have := World.block_lt_of_cell? _ _ hw555_0; first | rwa [add_block] at this | exact this) GW556.out)) | (show (Addr.add _ _).block ≠ _; rw [add_block]; exact Nat.ne_of_lt (Nat.lt_of_lt_of_le (by have := World.block_lt_of_cell? _ _ hw555_0; first | rwa [add_block] at this | exact this) GW556.out)) | (dsimp only; exact Nat.ne_of_lt (Nat.lt_of_lt_of_le (by have := World.block_lt_of_cell? _ _ hw555_0; first | rwa [add_block] at this | exact this) GW556.out))) _).trans (((cell_far (p := ⟨gb556, _, none⟩) (by first | exact Nat.ne_of_lt (Nat.lt_of_lt_of_le (by have := World.block_lt_of_cell? _ _ hw555_0; first | rwa [add_block] at this | exact this) GW556.out) | (rw [add_block]; exact Nat.ne_of_lt (Nat.lt_of_lt_of_le (by have := World.block_lt_of_cell? _ _ hw555_0; first | rwa [add_block] at this | exact this) GW556.out)) | (show (Addr.add _ _).block ≠ _; rw [add_block]; exact Nat.ne_of_lt (Nat.lt_of_lt_of_le (by have := World.block_lt_of_cell? _ _ hw555_0; first | rwa [add_block] at this | exact this) GW556.out)) | (dsimp only; exact Nat.ne_of_lt (Nat.lt_of_lt_of_le (by have := World.block_lt_of_cell? _ _ hw555_0; first | rwa [add_block] at this | exact this) GW556.out))) _).trans (hHeld.2.2.2.2.2.2.1)))), ((cell_far (p := ⟨gb556, _, none⟩) (by first | exact Nat.ne_of_lt (Nat.lt_of_lt_of_le (by have := World.block_lt_of_cell? _ _ hw555_1; first | rwa [add_block] at this | exact this) GW556.out) | (rw [add_block]; exact Nat.ne_of_lt (Nat.lt_of_lt_of_le (by have := World.block_lt_of_cell? _ _ hw555_1; first | rwa [add_block] at this | exact this) GW556.out)) | (show (Addr.add _ _).block ≠ _; rw [add_block]; exact Nat.ne_of_lt (Nat.lt_of_lt_of_le (by have := World.block_lt_of_cell? _ _ hw555_1; first | rwa [add_block] at this | exact this) GW556.out)) | (dsimp only; exact Nat.ne_of_lt (Nat.lt_of_lt_of_le (by have := World.block_lt_of_cell? _ _ hw555_1; first | rwa [add_block] at this | exact this) GW556.out))) _).trans (((cell_far (p := ⟨gb556, _, none⟩) (by first | exact Nat.ne_of_lt (Nat.lt_of_lt_of_le (by have := World.block_lt_of_cell? _ _ hw555_1; first | rwa [add_block] at this | exact this) GW556.out) | (rw [add_block]; exact Nat.ne_of_lt (Nat.lt_of_lt_of_le (by have := World.block_lt_of_cell? _ _ hw555_1; first | rwa [add_block] at this | exact this) GW556.out)) | (show (Addr.add _ _).block ≠ _; rw [add_block]; exact Nat.ne_of_lt (Nat.lt_of_lt_of_le (by have := World.block_lt_of_cell? _ _ hw555_1; first | rwa [add_block] at this | exact this) GW556.out)) | (dsimp only; exact Nat.ne_of_lt (Nat.lt_of_lt_of_le (by have := World.block_lt_of_cell? _ _ hw555_1; first | rwa [add_block] at this | exact this) GW556.out))) _).trans (hHeld.2.2.2.2.2.2.2))))⟩ (fun hHeld => ?_)
         clear hK K
         refine done_ (done_of HT_.out (by kernel_rfl)) ?_
         have hcz28_0 : w25.cell? ⟨gb556, 0, none⟩ = some (.int .i64 0) := (blk_cell BK556.out 0).trans rfl
         have hcz28_1 : w25.cell? ⟨gb556, 1, none⟩ = some (.int .i64 0) := (blk_cell BK556.out 1).trans rfl
         have hfz28_0 := blk_frozen BK556.out 0
         have hfz28_1 := blk_frozen BK556.out 1
         try go_wp2
         (try simp only [← hl5_1])
         go_roundg k1
         case measure => have := HK1.out; omega
         case rel => exact ⟨(x5_1), (wrap64 (x13_1 + 1)), sd_, H', ⟨by have := HK1.out; omega⟩, ⟨by (try simp only [hl5_1]); (with_reducible repeat (first | apply Kd.R_alloc | apply Kd.R_drewN | apply Kd.R_drew)); exact Kd.R_mono (Kd.R_far (p := ⟨gb556, 1, none⟩) (Kd.R_far (p := ⟨gb556, 0, none⟩) (Kd.R_mono HO_5.out (fun k_ hk => (⟨hk, hk.2⟩ : _ ∧ k_ ≠ gb556))) (fun _ hk => hk.2) (.int .i64 ji12)) (fun _ hk => hk.2) (.int .i64 ji13)) (fun _ hk => trivial)⟩, ⟨by repeat (first | (with_reducible first | exact HB.out | apply below_alloc | apply pw_below_drewN | apply below_drew1 | refine below_set ?_ GE556.out) | exact HB.out)⟩⟩
       ·rw [if_neg c11] at H
        exact absurd H (by simp)
      ·rw [if_neg c10] at H
       exact absurd H (by simp)
     ·rw [if_neg c9] at H
      have c9b0 : decide (x13_1 < (l1.length : Int)) = false := decide_eq_false c9
      clear c9
      have H' := Aside0.mk H
      clear H
      go_wp2
      (try simp only [← hl5_1])
      go_roundg k1
      case measure => have := HK1.out; omega
      case rel => exact ⟨(x5_1), (wrap64 (x13_1 + 1)), sd_, H', ⟨by have := HK1.out; omega⟩, ⟨by (try simp only [hl5_1]); (with_reducible repeat (first | apply Kd.R_alloc | apply Kd.R_drewN | apply Kd.R_drew)); exact HO_5.out⟩, ⟨by repeat (first | (with_reducible first | exact HB.out | apply below_alloc | apply pw_below_drewN | apply below_drew1) | exact HB.out)⟩⟩
    ·rw [if_neg c8] at H
     have c8b0 : decide (x13_1 < (y549.length : Int)) = false := decide_eq_false c8
     have c8b1 : decide (x13_1 < (x5_1.length : Int)) = false := decide_eq_false (by have := hl5_1; omega)
     clear c8
     obtain rfl := Option.some.inj H
     go_wp2
     go_ret
     exact ⟨_, ew_, by (with_reducible repeat (first | apply Kd.R_alloc | apply Kd.R_drewN | apply Kd.R_drew)); exact HO_5.out, by repeat (first | (with_reducible first | exact HB.out | apply below_alloc | apply pw_below_drewN | apply below_drew1) | exact HB.out)⟩
 ·rw [if_neg c3] at H
  exact absurd H (by simp)
end
section
mutual
def cohousingtop_TopSettles.j0 : Nat → Int → List (S63) → List (S38) → List (S38) → List (S38) → List Int → Bool → Bool → Option (Bool)
 | 0, _, _, _, _, _, _, _, _ => none
 | k + 1, x0, x1, x2, x3, x4, x5, x13, x42 => if x42 = true then (some x13) else ((cohousingtop_w17Cut.f k x2 x3).bind fun t576 => ((cohousingtop_w17Cut.f k t576 x4).bind fun t579 => ((flow_Bounds.f x1 t576).bind fun bt582 => ((flow_Bounds.f x1 t579).bind fun bt586 => ((charges_Network.f x0 x1 x2 x5).bind fun bt590 => (if bt590.2.2 = 0 then (if bt582.2 = 0 then (cohousingtop_TopSettles.j1 k x0 x1 x5 x13 t576 t579 bt590.1 bt590.2.1 (bt586.2 != 0)) else (cohousingtop_TopSettles.j1 k x0 x1 x5 x13 t576 t579 bt590.1 bt590.2.1 true)) else (cohousingtop_TopSettles.j1 k x0 x1 x5 x13 t576 t579 bt590.1 bt590.2.1 true)))))))
def cohousingtop_TopSettles.j1 : Nat → Int → List (S63) → List Int → Bool → List (S38) → List (S38) → List (S40) → Int → Bool → Option (Bool)
 | 0, _, _, _, _, _, _, _, _, _ => none
 | k + 1, x0, x1, x5, x13, x14, x15, x20, x21, x80 => if x80 = true then (some x13) else ((charges_Network.f x0 x1 x14 x5).bind fun bt595 => ((charges_Network.f x0 x1 x15 x5).bind fun bt600 => (if bt595.2.2 = 0 then (cohousingtop_TopSettles.j2 k x13 x20 x21 bt595.1 bt595.2.1 bt600.1 bt600.2.1 (bt600.2.2 != 0)) else (cohousingtop_TopSettles.j2 k x13 x20 x21 bt595.1 bt595.2.1 bt600.1 bt600.2.1 true))))
def cohousingtop_TopSettles.j2 : Nat → Bool → List (S40) → Int → List (S40) → Int → List (S40) → Int → Bool → Option (Bool)
 | 0, _, _, _, _, _, _, _, _ => none
 | k + 1, x13, x20, x21, x23, x24, x26, x27, x105 => if x105 = true then (some false) else (if x13 = true then ((cohousingtop_w17Settled.f k x20 x23 x21 x24).bind fun t605 => (if t605 = true then ((cohousingtop_w17Settled.f k x23 x26 x24 x27).bind fun t606 => (if t606 = true then ((cohousingtop_w17Settled.f k x20 x26 x21 x27).bind fun t607 => (some t607)) else (some false))) else (some false))) else (some false))
end
def cohousingtop_TopSettles.f (k : Nat) (a0 : Int) (l1 : List (S63)) (l2 : List (S38)) (l3 : List (S38)) (l4 : List (S38)) (l5 : List Int) : Option (Bool) := (cohousingtop_w17Pipes.f).bind fun t575 => (if (l1.length : Int) > 20 then (cohousingtop_TopSettles.j0 k a0 l1 l2 l3 l4 l5 t575 true) else (if (l2.length : Int) > 20 then (cohousingtop_TopSettles.j0 k a0 l1 l2 l3 l4 l5 t575 true) else (cohousingtop_TopSettles.j0 k a0 l1 l2 l3 l4 l5 t575 (decide ((l5.length : Int) > 20)))))
theorem cohousingtop_TopSettles.calls (k : Nat) (a0 : Int) (A1 : Option Addr) (c1 : Nat) (l1 : List (S63)) (A2 : Option Addr) (c2 : Nat) (l2 : List (S38)) (A3 : Option Addr) (c3 : Nat) (l3 : List (S38)) (A4 : Option Addr) (c4 : Nat) (l4 : List (S38)) (A5 : Option Addr) (c5 : Nat) (l5 : List Int) (r : Bool) (w : World) (hr1 : Kd.C k63 w A1 l1.length l1) (hc1 : l1.length ≤ c1) (hr2 : Kd.C k38 w A2 l2.length l2) (hc2 : l2.length ≤ c2) (hr3 : Kd.C k38 w A3 l3.length l3) (hc3 : l3.length ≤ c3) (hr4 : Kd.C k38 w A4 l4.length l4) (hc4 : l4.length ≤ c4) (hr5 : Kd.C (Kd.int .i64) w A5 l5.length l5) (hc5 : l5.length ≤ c5) (h : cohousingtop_TopSettles.f k a0 l1 l2 l3 l4 l5 = some r) :
  Calls Try.prog 9 #[.int .i64 a0, .slice A1 l1.length c1, .slice A2 l2.length c2, .slice A3 l3.length c3, .slice A4 l4.length c4, .slice A5 l5.length c5] w fun e w' => e = .returned (.bool r) ∧ Below w.heap.size w w' := by
 have HR1 := Aside0.mk hr1
 have HC1 := Aside0.mk hc1
 clear hr1 hc1
 have HR2 := Aside0.mk hr2
 have HC2 := Aside0.mk hc2
 clear hr2 hc2
 have HR3 := Aside0.mk hr3
 have HC3 := Aside0.mk hc3
 clear hr3 hc3
 have HR4 := Aside0.mk hr4
 have HC4 := Aside0.mk hc4
 clear hr4 hc4
 have HR5 := Aside0.mk hr5
 have HC5 := Aside0.mk hc5
 clear hr5 hc5
 have HB := Aside0.mk (Below.refl w.heap.size w)
 have H : ((cohousingtop_w17Pipes.f).bind fun t575 => (if (l1.length : Int) > 20 then (cohousingtop_TopSettles.j0 k a0 l1 l2 l3 l4 l5 t575 true) else (if (l2.length : Int) > 20 then (cohousingtop_TopSettles.j0 k a0 l1 l2 l3 l4 l5 t575 true) else (cohousingtop_TopSettles.j0 k a0 l1 l2 l3 l4 l5 t575 (decide ((l5.length : Int) > 20)))))) = some r := h
 clear h
 replace H := Option.bind_eq_some_iff.mp H
 obtain ⟨t575, A70, H⟩ := H
 replace H : (if (l1.length : Int) > 20 then (cohousingtop_TopSettles.j0 k a0 l1 l2 l3 l4 l5 t575 true) else (if (l2.length : Int) > 20 then (cohousingtop_TopSettles.j0 k a0 l1 l2 l3 l4 l5 t575 true) else (cohousingtop_TopSettles.j0 k a0 l1 l2 l3 l4 l5 t575 (decide ((l5.length : Int) > 20))))) = some r := H
 have A7 := Aside0.mk A70
 clear A70
 have HC8 := Aside0.mk H
 clear H
 go_enter Try.func9, Try.ntmps9
 go_upto_region 2 with (first | ((with_reducible refine gate_callee (f := 27) rfl ?_); refine gl_ (some 29) Try.func27 #[] ?_; (with_reducible refine (cohousingtop_w17Pipes.calls  t575 _ A7.out).mono ?_); rintro e w9 ⟨rfl, hb⟩; refine ⟨_, rfl, ?_⟩; have n0_ := Aside0.mk (below_step (bb_ HB) hb); clear HB; have HB := n0_; clear n0_; (try clear hb); (try clear hb2); (try clear hk); (try clear hi)))
 (try simp only [Act.put, sI_, s0_, sS_])
 go_cut [42] (fun v42 wc => ∃ (kq : Nat) (x42_7 : Bool), v42 = .bool x42_7 ∧ Aside0 (cohousingtop_TopSettles.j0 kq a0 l1 l2 l3 l4 l5 t575 x42_7 = some r) ∧ Aside0 (kq ≤ k) ∧ Aside0 (Below w.heap.size w wc))
 case first =>
  have H := HC8.out
  clear HC8
  by_cases c10 : (l1.length : Int) > 20
  ·rw [if_pos c10] at H
   have c10b0 : decide (20 < (l1.length : Int)) = true := decide_eq_true c10
   have c10b1 : decide (20 < l1.length) = true := decide_eq_true (by omega)
   clear c10
   (first | rw [c10b0] | (simp only [i64_w, i32_w]; rw [c10b0]) | skip)
   have H' := Aside0.mk H
   clear H
   go_wp2
   go_meet
   case rel => exact ⟨_, (true), sd_, H', ⟨by first | omega | exact Nat.le_refl _⟩, ⟨by repeat (first | (with_reducible first | exact HB.out | apply below_alloc | apply pw_below_drewN | apply below_drew1) | exact HB.out)⟩⟩
  ·rw [if_neg c10] at H
   have c10b0 : decide (20 < (l1.length : Int)) = false := decide_eq_false c10
   have c10b1 : decide (20 < l1.length) = false := decide_eq_false (by omega)
   clear c10
   (first | rw [c10b0] | (simp only [i64_w, i32_w]; rw [c10b0]) | skip)
   by_cases c11 : (l2.length : Int) > 20
   ·rw [if_pos c11] at H
    have c11b0 : decide (20 < (l2.length : Int)) = true := decide_eq_true c11
    have c11b1 : decide (20 < l2.length) = true := decide_eq_true (by omega)
    clear c11
    have H' := Aside0.mk H
    clear H
    go_wp2
    go_meet
    case rel => exact ⟨_, (true), sd_, H', ⟨by first | omega | exact Nat.le_refl _⟩, ⟨by repeat (first | (with_reducible first | exact HB.out | apply below_alloc | apply pw_below_drewN | apply below_drew1) | exact HB.out)⟩⟩
   ·rw [if_neg c11] at H
    have c11b0 : decide (20 < (l2.length : Int)) = false := decide_eq_false c11
    have c11b1 : decide (20 < l2.length) = false := decide_eq_false (by omega)
    clear c11
    have H' := Aside0.mk H
    clear H
    go_wp2
    go_meet
    case rel => exact ⟨_, (decide ((l5.length : Int) > 20)), sd_, H', ⟨by first | omega | exact Nat.le_refl _⟩, ⟨by repeat (first | (with_reducible first | exact HB.out | apply below_alloc | apply pw_below_drewN | apply below_drew1) | exact HB.out)⟩⟩
 case rest =>
  clear HC8
  try clear c1
  try clear c2
  try clear p2
  try clear c3
  try clear c4
  try clear c5
  try clear c9
  try clear c10
  try clear c10b0
  try clear c10b1
  try clear c11
  try clear c11b0
  try clear c11b1
  obtain ⟨kq, x42_7, rfl, HA, HJ7, HB⟩ := hcut
  cases kq with
  | zero => exact absurd HA.out (by simp [cohousingtop_TopSettles.j0])
  | succ kj7 =>
   have H := HA.out
   clear HA
   simp only [cohousingtop_TopSettles.j0] at H
   by_cases c12 : x42_7 = true
   ·subst c12
    have H1 : (some t575) = some r := by rw [if_pos rfl] at H; exact H
    clear H
    have H := H1
    clear H1
    obtain rfl := Option.some.inj H
    go_wp2
    go_ret
    exact ⟨ew_, by repeat (first | (with_reducible first | exact HB.out | apply below_alloc | apply pw_below_drewN | apply below_drew1) | exact HB.out)⟩
   ·replace c12 := Bool.eq_false_iff.mpr c12
    subst c12
    have H1 : ((cohousingtop_w17Cut.f kj7 l2 l3).bind fun t576 => ((cohousingtop_w17Cut.f kj7 t576 l4).bind fun t579 => ((flow_Bounds.f l1 t576).bind fun bt582 => ((flow_Bounds.f l1 t579).bind fun bt586 => ((charges_Network.f a0 l1 l2 l5).bind fun bt590 => (if bt590.2.2 = 0 then (if bt582.2 = 0 then (cohousingtop_TopSettles.j1 kj7 a0 l1 l5 t575 t576 t579 bt590.1 bt590.2.1 (bt586.2 != 0)) else (cohousingtop_TopSettles.j1 kj7 a0 l1 l5 t575 t576 t579 bt590.1 bt590.2.1 true)) else (cohousingtop_TopSettles.j1 kj7 a0 l1 l5 t575 t576 t579 bt590.1 bt590.2.1 true))))))) = some r := by rw [if_neg (show ¬ (false = true) by decide)] at H; exact H
    clear H
    have H := H1
    clear H1
    replace H := Option.bind_eq_some_iff.mp H
    obtain ⟨t576, A130, H⟩ := H
    replace H : ((cohousingtop_w17Cut.f kj7 t576 l4).bind fun t579 => ((flow_Bounds.f l1 t576).bind fun bt582 => ((flow_Bounds.f l1 t579).bind fun bt586 => ((charges_Network.f a0 l1 l2 l5).bind fun bt590 => (if bt590.2.2 = 0 then (if bt582.2 = 0 then (cohousingtop_TopSettles.j1 kj7 a0 l1 l5 t575 t576 t579 bt590.1 bt590.2.1 (bt586.2 != 0)) else (cohousingtop_TopSettles.j1 kj7 a0 l1 l5 t575 t576 t579 bt590.1 bt590.2.1 true)) else (cohousingtop_TopSettles.j1 kj7 a0 l1 l5 t575 t576 t579 bt590.1 bt590.2.1 true)))))) = some r := H
    have A13 := Aside0.mk A130
    clear A130
    replace H := Option.bind_eq_some_iff.mp H
    obtain ⟨t579, A140, H⟩ := H
    replace H : ((flow_Bounds.f l1 t576).bind fun bt582 => ((flow_Bounds.f l1 t579).bind fun bt586 => ((charges_Network.f a0 l1 l2 l5).bind fun bt590 => (if bt590.2.2 = 0 then (if bt582.2 = 0 then (cohousingtop_TopSettles.j1 kj7 a0 l1 l5 t575 t576 t579 bt590.1 bt590.2.1 (bt586.2 != 0)) else (cohousingtop_TopSettles.j1 kj7 a0 l1 l5 t575 t576 t579 bt590.1 bt590.2.1 true)) else (cohousingtop_TopSettles.j1 kj7 a0 l1 l5 t575 t576 t579 bt590.1 bt590.2.1 true))))) = some r := H
    have A14 := Aside0.mk A140
    clear A140
    replace H := Option.bind_eq_some_iff.mp H
    obtain ⟨⟨t582, t583⟩, A150, H⟩ := H
    replace H : ((flow_Bounds.f l1 t579).bind fun bt586 => ((charges_Network.f a0 l1 l2 l5).bind fun bt590 => (if bt590.2.2 = 0 then (if t583 = 0 then (cohousingtop_TopSettles.j1 kj7 a0 l1 l5 t575 t576 t579 bt590.1 bt590.2.1 (bt586.2 != 0)) else (cohousingtop_TopSettles.j1 kj7 a0 l1 l5 t575 t576 t579 bt590.1 bt590.2.1 true)) else (cohousingtop_TopSettles.j1 kj7 a0 l1 l5 t575 t576 t579 bt590.1 bt590.2.1 true)))) = some r := H
    have A15 := Aside0.mk A150
    clear A150
    replace H := Option.bind_eq_some_iff.mp H
    obtain ⟨⟨t586, t587⟩, A160, H⟩ := H
    replace H : ((charges_Network.f a0 l1 l2 l5).bind fun bt590 => (if bt590.2.2 = 0 then (if t583 = 0 then (cohousingtop_TopSettles.j1 kj7 a0 l1 l5 t575 t576 t579 bt590.1 bt590.2.1 (t587 != 0)) else (cohousingtop_TopSettles.j1 kj7 a0 l1 l5 t575 t576 t579 bt590.1 bt590.2.1 true)) else (cohousingtop_TopSettles.j1 kj7 a0 l1 l5 t575 t576 t579 bt590.1 bt590.2.1 true))) = some r := H
    have A16 := Aside0.mk A160
    clear A160
    replace H := Option.bind_eq_some_iff.mp H
    obtain ⟨⟨t590, t591, t592⟩, A170, H⟩ := H
    replace H : (if t592 = 0 then (if t583 = 0 then (cohousingtop_TopSettles.j1 kj7 a0 l1 l5 t575 t576 t579 t590 t591 (t587 != 0)) else (cohousingtop_TopSettles.j1 kj7 a0 l1 l5 t575 t576 t579 t590 t591 true)) else (cohousingtop_TopSettles.j1 kj7 a0 l1 l5 t575 t576 t579 t590 t591 true)) = some r := H
    have A17 := Aside0.mk A170
    clear A170
    have HC18 := Aside0.mk H
    clear H
    go_upto_region 9 with (first | ((with_reducible refine gate_callee (f := 28) rfl ?_); refine gl_ (some 46) Try.func28 #[.slice A2 l2.length c2, .slice A3 l3.length c3] ?_; (with_reducible refine (cohousingtop_w17Cut.calls kj7 _ _ l2 _ _ l3 t576 _ ?side1 ?side2 ?side3 ?side4 A13.out).mono ?_); (case side1 => exact cc_ ((Kd.C_below HR2.out HB.out))); (case side2 => exact HC2.out); (case side3 => exact cc_ ((Kd.C_below HR3.out HB.out))); (case side4 => exact HC3.out); rintro e w19 ⟨v577, rfl, ho0, hb⟩; refine ⟨_, rfl, ?_⟩; have n0_ := Aside0.mk (Kd.R_lower ho0 (below_size (bb_ HB))); have n1_ := Aside0.mk (below_step (bb_ HB) hb); clear HB; have HO578 := n0_; have HB := n1_; clear n0_ n1_; (try clear hb); (try clear hb2); (try clear hk); (try clear hi); (try clear ho0); obtain ⟨Ao20, co20, eo20⟩ := Kd.R_slice HO578.out; subst eo20) | ((with_reducible refine gate_callee (f := 28) rfl ?_); refine gl_ (some 49) Try.func28 #[.slice Ao20 t576.length co20, .slice A4 l4.length c4] ?_; (with_reducible refine (cohousingtop_w17Cut.calls kj7 _ _ t576 _ _ l4 t579 _ ?side1 ?side2 ?side3 ?side4 A14.out).mono ?_); (case side1 => exact cc_ ((Kd.R_reads' HO578.out).2.2)); (case side2 => exact (Kd.R_reads' HO578.out).2.1); (case side3 => exact cc_ ((Kd.C_below HR4.out HB.out))); (case side4 => exact HC4.out); rintro e w21 ⟨v580, rfl, ho0, hb⟩; refine ⟨_, rfl, ?_⟩; have n0_ := Aside0.mk (Kd.R_elder' (rr_ HO578) (Kd.R_base ho0) hb); have n1_ := Aside0.mk (Kd.R_lower (Kd.R_new' ho0 (Kd.R_lt (rr_ HO578))) (below_size (bb_ HB))); have n2_ := Aside0.mk (below_step (bb_ HB) hb); clear HO578; clear HB; have HO578 := n0_; have HO581 := n1_; have HB := n2_; clear n0_ n1_ n2_; (try clear hb); (try clear hb2); (try clear hk); (try clear hi); (try clear ho0)) | ((with_reducible refine gate_callee (f := 25) rfl ?_); refine gl_ (some 53) Try.func25 #[.slice A1 l1.length c1, .slice Ao20 t576.length co20] ?_; (with_reducible refine (flow_Bounds.calls _ _ l1 _ _ t576 t582 t583 _ ?side1 ?side2 ?side3 ?side4 A15.out).mono ?_); (case side1 => exact cc_ ((Kd.C_below HR1.out HB.out))); (case side2 => exact HC1.out); (case side3 => exact cc_ ((Kd.R_reads' HO578.out).2.2)); (case side4 => exact (Kd.R_reads' HO578.out).2.1); rintro e w22 ⟨v584, rfl, ho0, hb⟩; refine ⟨_, rfl, ?_⟩; have n0_ := Aside0.mk (Kd.R_elder' (rr_ HO578) (Kd.R_base ho0) hb); have n1_ := Aside0.mk (Kd.R_elder' (rr_ HO581) (Kd.R_base ho0) hb); have n2_ := Aside0.mk (Kd.R_lower (Kd.R_new' (Kd.R_new' ho0 (Kd.R_lt (rr_ HO578))) (Kd.R_lt (rr_ HO581))) (below_size (bb_ HB))); have n3_ := Aside0.mk (below_step (bb_ HB) hb); clear HO578; clear HO581; clear HB; have HO578 := n0_; have HO581 := n1_; have HO585 := n2_; have HB := n3_; clear n0_ n1_ n2_ n3_; (try clear hb); (try clear hb2); (try clear hk); (try clear hi); (try clear ho0); obtain ⟨Ao23, co23, eo23⟩ := Kd.R_slice HO581.out; subst eo23) | ((with_reducible refine gate_callee (f := 25) rfl ?_); refine gl_ (some 59) Try.func25 #[.slice A1 l1.length c1, .slice Ao23 t579.length co23] ?_; (with_reducible refine (flow_Bounds.calls _ _ l1 _ _ t579 t586 t587 _ ?side1 ?side2 ?side3 ?side4 A16.out).mono ?_); (case side1 => exact cc_ ((Kd.C_below HR1.out HB.out))); (case side2 => exact HC1.out); (case side3 => exact cc_ ((Kd.R_reads' HO581.out).2.2)); (case side4 => exact (Kd.R_reads' HO581.out).2.1); rintro e w24 ⟨v588, rfl, ho0, hb⟩; refine ⟨_, rfl, ?_⟩; have n0_ := Aside0.mk (Kd.R_elder' (rr_ HO578) (Kd.R_base ho0) hb); have n1_ := Aside0.mk (Kd.R_elder' (rr_ HO581) (Kd.R_base ho0) hb); have n2_ := Aside0.mk (Kd.R_elder' (rr_ HO585) (Kd.R_base ho0) hb); have n3_ := Aside0.mk (Kd.R_lower (Kd.R_new' (Kd.R_new' (Kd.R_new' ho0 (Kd.R_lt (rr_ HO578))) (Kd.R_lt (rr_ HO581))) (Kd.R_lt (rr_ HO585))) (below_size (bb_ HB))); have n4_ := Aside0.mk (below_step (bb_ HB) hb); clear HO578; clear HO581; clear HO585; clear HB; have HO578 := n0_; have HO581 := n1_; have HO585 := n2_; have HO589 := n3_; have HB := n4_; clear n0_ n1_ n2_ n3_ n4_; (try clear hb); (try clear hb2); (try clear hk); (try clear hi); (try clear ho0)) | ((with_reducible refine gate_callee (f := 19) rfl ?_); refine gl_ (some 67) Try.func19 #[.int .i64 a0, .slice A1 l1.length c1, .slice A2 l2.length c2, .slice A5 l5.length c5] ?_; (with_reducible refine (charges_Network.calls a0 _ _ l1 _ _ l2 _ _ l5 t590 t591 t592 _ ?side1 ?side2 ?side3 ?side4 ?side5 ?side6 A17.out).mono ?_); (case side1 => exact cc_ ((Kd.C_below HR1.out HB.out))); (case side2 => exact HC1.out); (case side3 => exact cc_ ((Kd.C_below HR2.out HB.out))); (case side4 => exact HC2.out); (case side5 => exact cc_ ((Kd.C_below HR5.out HB.out))); (case side6 => exact HC5.out); rintro e w25 ⟨v593, rfl, ho0, hb⟩; refine ⟨_, rfl, ?_⟩; have n0_ := Aside0.mk (Kd.R_below (rr_ HO578) hb); have n1_ := Aside0.mk (Kd.R_below (rr_ HO581) hb); have n2_ := Aside0.mk (Kd.R_below (rr_ HO585) hb); have n3_ := Aside0.mk (Kd.R_below (rr_ HO589) hb); have n4_ := Aside0.mk (Kd.R_lower ho0 (below_size (bb_ HB))); have n5_ := Aside0.mk (below_step (bb_ HB) hb); clear HO578; clear HO581; clear HO585; clear HO589; clear HB; have HO578 := n0_; have HO581 := n1_; have HO585 := n2_; have HO589 := n3_; have HO594 := n4_; have HB := n5_; clear n0_ n1_ n2_ n3_ n4_ n5_; (try clear hb); (try clear hb2); (try clear hk); (try clear hi); (try clear ho0)))
    (try simp only [Act.put, sI_, s0_, sS_])
    go_cut [80] (fun v80 wc => ∃ (kq : Nat) (x80_17 : Bool), v80 = .bool x80_17 ∧ Aside0 (cohousingtop_TopSettles.j1 kq a0 l1 l5 t575 t576 t579 t590 t591 x80_17 = some r) ∧ Aside0 (kq ≤ kj7) ∧ Aside0 (Kd.R k38 38 wc w.heap.size (fun k_ => some k_ ≠ ((.slice Ao23 t579.length co23) : Value).ownBlock) (.slice Ao20 t576.length co20) t576) ∧ Aside0 (Kd.R k38 38 wc w.heap.size (fun k_ => some k_ ≠ ((.slice Ao20 t576.length co20) : Value).ownBlock) (.slice Ao23 t579.length co23) t579) ∧ Aside0 (Kd.R k40 40 wc w.heap.size (fun _ => True) v593 t590) ∧ Aside0 (Below w.heap.size w wc))
    case first =>
     have H := HC18.out
     clear HC18
     by_cases c26 : t592 = 0
     ·rw [if_pos c26] at H
      have c26b0 : (t592 == 0) = true := beq_iff_eq.mpr c26
      have c26b1 : (t592 != 0) = false := bne_eq_false_iff_eq.mpr c26
      clear c26
      (first | rw [c26b0] | (simp only [i64_w, i32_w]; rw [c26b0]) | skip)
      by_cases c27 : t583 = 0
      ·rw [if_pos c27] at H
       have c27b0 : (t583 == 0) = true := beq_iff_eq.mpr c27
       have c27b1 : (t583 != 0) = false := bne_eq_false_iff_eq.mpr c27
       clear c27
       have H' := Aside0.mk H
       clear H
       go_wp2
       go_meet
       case rel => exact ⟨_, ((t587 != 0)), sd_, H', ⟨by have := HJ7.out; first | omega | exact Nat.le_refl _⟩, ⟨by (with_reducible repeat (first | apply Kd.R_alloc | apply Kd.R_drewN | apply Kd.R_drew)); exact Kd.R_mono HO578.out (fun _ hk => hk.1.1.2)⟩, ⟨by (with_reducible repeat (first | apply Kd.R_alloc | apply Kd.R_drewN | apply Kd.R_drew)); exact Kd.R_mono HO581.out (fun _ hk => hk.1.1.2)⟩, ⟨by (with_reducible repeat (first | apply Kd.R_alloc | apply Kd.R_drewN | apply Kd.R_drew)); exact HO594.out⟩, ⟨by repeat (first | (with_reducible first | exact HB.out | apply below_alloc | apply pw_below_drewN | apply below_drew1) | exact HB.out)⟩⟩
      ·rw [if_neg c27] at H
       have c27b0 : (t583 == 0) = false := beq_eq_false_iff_ne.mpr c27
       have c27b1 : (t583 != 0) = true := bne_iff_ne.mpr c27
       have H' := Aside0.mk H
       clear H
       go_wp2
       go_meet
       case rel => exact ⟨_, (true), sd_, H', ⟨by have := HJ7.out; first | omega | exact Nat.le_refl _⟩, ⟨by (with_reducible repeat (first | apply Kd.R_alloc | apply Kd.R_drewN | apply Kd.R_drew)); exact Kd.R_mono HO578.out (fun _ hk => hk.1.1.2)⟩, ⟨by (with_reducible repeat (first | apply Kd.R_alloc | apply Kd.R_drewN | apply Kd.R_drew)); exact Kd.R_mono HO581.out (fun _ hk => hk.1.1.2)⟩, ⟨by (with_reducible repeat (first | apply Kd.R_alloc | apply Kd.R_drewN | apply Kd.R_drew)); exact HO594.out⟩, ⟨by repeat (first | (with_reducible first | exact HB.out | apply below_alloc | apply pw_below_drewN | apply below_drew1) | exact HB.out)⟩⟩
     ·rw [if_neg c26] at H
      have c26b0 : (t592 == 0) = false := beq_eq_false_iff_ne.mpr c26
      have c26b1 : (t592 != 0) = true := bne_iff_ne.mpr c26
      (first | rw [c26b0] | (simp only [i64_w, i32_w]; rw [c26b0]) | skip)
      have H' := Aside0.mk H
      clear H
      go_wp2
      go_meet
      case rel => exact ⟨_, (true), sd_, H', ⟨by have := HJ7.out; first | omega | exact Nat.le_refl _⟩, ⟨by (with_reducible repeat (first | apply Kd.R_alloc | apply Kd.R_drewN | apply Kd.R_drew)); exact Kd.R_mono HO578.out (fun _ hk => hk.1.1.2)⟩, ⟨by (with_reducible repeat (first | apply Kd.R_alloc | apply Kd.R_drewN | apply Kd.R_drew)); exact Kd.R_mono HO581.out (fun _ hk => hk.1.1.2)⟩, ⟨by (with_reducible repeat (first | apply Kd.R_alloc | apply Kd.R_drewN | apply Kd.R_drew)); exact HO594.out⟩, ⟨by repeat (first | (with_reducible first | exact HB.out | apply below_alloc | apply pw_below_drewN | apply below_drew1) | exact HB.out)⟩⟩
    case rest =>
     clear HC18
     try clear c1
     try clear c2
     try clear p2
     try clear c3
     try clear c4
     try clear c5
     try clear c9
     try clear c10
     try clear c10b0
     try clear c10b1
     try clear c11
     try clear c11b0
     try clear c11b1
     try clear c12
     try clear c19
     try clear c25
     try clear c26
     try clear c26b0
     try clear c26b1
     try clear c27
     try clear c27b0
     try clear c27b1
     try clear p2
     obtain ⟨kq, x80_17, rfl, HA, HJ17, HO_14, HO_15, HO_20, HB⟩ := hcut
     cases kq with
     | zero => exact absurd HA.out (by simp [cohousingtop_TopSettles.j1])
     | succ kj17 =>
      have H := HA.out
      clear HA
      simp only [cohousingtop_TopSettles.j1] at H
      by_cases c28 : x80_17 = true
      ·subst c28
       have H1 : (some t575) = some r := by rw [if_pos rfl] at H; exact H
       clear H
       have H := H1
       clear H1
       obtain rfl := Option.some.inj H
       go_wp2
       go_ret
       exact ⟨ew_, by repeat (first | (with_reducible first | exact HB.out | apply below_alloc | apply pw_below_drewN | apply below_drew1) | exact HB.out)⟩
      ·replace c28 := Bool.eq_false_iff.mpr c28
       subst c28
       have H1 : ((charges_Network.f a0 l1 t576 l5).bind fun bt595 => ((charges_Network.f a0 l1 t579 l5).bind fun bt600 => (if bt595.2.2 = 0 then (cohousingtop_TopSettles.j2 kj17 t575 t590 t591 bt595.1 bt595.2.1 bt600.1 bt600.2.1 (bt600.2.2 != 0)) else (cohousingtop_TopSettles.j2 kj17 t575 t590 t591 bt595.1 bt595.2.1 bt600.1 bt600.2.1 true)))) = some r := by rw [if_neg (show ¬ (false = true) by decide)] at H; exact H
       clear H
       have H := H1
       clear H1
       replace H := Option.bind_eq_some_iff.mp H
       obtain ⟨⟨t595, t596, t597⟩, A290, H⟩ := H
       replace H : ((charges_Network.f a0 l1 t579 l5).bind fun bt600 => (if t597 = 0 then (cohousingtop_TopSettles.j2 kj17 t575 t590 t591 t595 t596 bt600.1 bt600.2.1 (bt600.2.2 != 0)) else (cohousingtop_TopSettles.j2 kj17 t575 t590 t591 t595 t596 bt600.1 bt600.2.1 true))) = some r := H
       have A29 := Aside0.mk A290
       clear A290
       replace H := Option.bind_eq_some_iff.mp H
       obtain ⟨⟨t600, t601, t602⟩, A300, H⟩ := H
       replace H : (if t597 = 0 then (cohousingtop_TopSettles.j2 kj17 t575 t590 t591 t595 t596 t600 t601 (t602 != 0)) else (cohousingtop_TopSettles.j2 kj17 t575 t590 t591 t595 t596 t600 t601 true)) = some r := H
       have A30 := Aside0.mk A300
       clear A300
       have HC31 := Aside0.mk H
       clear H
       go_upto_region 13 with (first | ((with_reducible refine gate_callee (f := 19) rfl ?_); refine gl_ (some 87) Try.func19 #[.int .i64 a0, .slice A1 l1.length c1, .slice Ao20 t576.length co20, .slice A5 l5.length c5] ?_; (with_reducible refine (charges_Network.calls a0 _ _ l1 _ _ t576 _ _ l5 t595 t596 t597 _ ?side1 ?side2 ?side3 ?side4 ?side5 ?side6 A29.out).mono ?_); (case side1 => exact cc_ ((Kd.C_below HR1.out HB.out))); (case side2 => exact HC1.out); (case side3 => exact cc_ ((Kd.R_reads' HO_14.out).2.2)); (case side4 => exact (Kd.R_reads' HO_14.out).2.1); (case side5 => exact cc_ ((Kd.C_below HR5.out HB.out))); (case side6 => exact HC5.out); rintro e w32 ⟨v598, rfl, ho0, hb⟩; refine ⟨_, rfl, ?_⟩; have n0_ := Aside0.mk (Kd.R_below (rr_ HO_14) hb); have n1_ := Aside0.mk (Kd.R_below (rr_ HO_15) hb); have n2_ := Aside0.mk (Kd.R_elder' (rr_ HO_20) (Kd.R_base ho0) hb); have n3_ := Aside0.mk (Kd.R_lower (Kd.R_new' ho0 (Kd.R_lt (rr_ HO_20))) (below_size (bb_ HB))); have n4_ := Aside0.mk (below_step (bb_ HB) hb); clear HO_14; clear HO_15; clear HO_20; clear HB; have HO_14 := n0_; have HO_15 := n1_; have HO_20 := n2_; have HO599 := n3_; have HB := n4_; clear n0_ n1_ n2_ n3_ n4_; (try clear hb); (try clear hb2); (try clear hk); (try clear hi); (try clear ho0)) | ((with_reducible refine gate_callee (f := 19) rfl ?_); refine gl_ (some 96) Try.func19 #[.int .i64 a0, .slice A1 l1.length c1, .slice Ao23 t579.length co23, .slice A5 l5.length c5] ?_; (with_reducible refine (charges_Network.calls a0 _ _ l1 _ _ t579 _ _ l5 t600 t601 t602 _ ?side1 ?side2 ?side3 ?side4 ?side5 ?side6 A30.out).mono ?_); (case side1 => exact cc_ ((Kd.C_below HR1.out HB.out))); (case side2 => exact HC1.out); (case side3 => exact cc_ ((Kd.R_reads' HO_15.out).2.2)); (case side4 => exact (Kd.R_reads' HO_15.out).2.1); (case side5 => exact cc_ ((Kd.C_below HR5.out HB.out))); (case side6 => exact HC5.out); rintro e w33 ⟨v603, rfl, ho0, hb⟩; refine ⟨_, rfl, ?_⟩; have n0_ := Aside0.mk (Kd.R_below (rr_ HO_14) hb); have n1_ := Aside0.mk (Kd.R_below (rr_ HO_15) hb); have n2_ := Aside0.mk (Kd.R_elder' (rr_ HO_20) (Kd.R_base ho0) hb); have n3_ := Aside0.mk (Kd.R_elder' (rr_ HO599) (Kd.R_base ho0) hb); have n4_ := Aside0.mk (Kd.R_lower (Kd.R_new' (Kd.R_new' ho0 (Kd.R_lt (rr_ HO_20))) (Kd.R_lt (rr_ HO599))) (below_size (bb_ HB))); have n5_ := Aside0.mk (below_step (bb_ HB) hb); clear HO_14; clear HO_15; clear HO_20; clear HO599; clear HB; have HO_14 := n0_; have HO_15 := n1_; have HO_20 := n2_; have HO599 := n3_; have HO604 := n4_; have HB := n5_; clear n0_ n1_ n2_ n3_ n4_ n5_; (try clear hb); (try clear hb2); (try clear hk); (try clear hi); (try clear ho0)))
       (try simp only [Act.put, sI_, s0_, sS_])
       go_cut [105] (fun v105 wc => ∃ (kq : Nat) (x105_30 : Bool), v105 = .bool x105_30 ∧ Aside0 (cohousingtop_TopSettles.j2 kq t575 t590 t591 t595 t596 t600 t601 x105_30 = some r) ∧ Aside0 (kq ≤ kj17) ∧ Aside0 (Kd.R k40 40 wc w.heap.size (fun k_ => some k_ ≠ (v598 : Value).ownBlock ∧ some k_ ≠ (v603 : Value).ownBlock) v593 t590) ∧ Aside0 (Kd.R k40 40 wc w.heap.size (fun k_ => some k_ ≠ (v593 : Value).ownBlock ∧ some k_ ≠ (v603 : Value).ownBlock) v598 t595) ∧ Aside0 (Kd.R k40 40 wc w.heap.size (fun k_ => some k_ ≠ (v593 : Value).ownBlock ∧ some k_ ≠ (v598 : Value).ownBlock) v603 t600) ∧ Aside0 (Below w.heap.size w wc))
       case first =>
        have H := HC31.out
        clear HC31
        by_cases c34 : t597 = 0
        ·rw [if_pos c34] at H
         have c34b0 : (t597 == 0) = true := beq_iff_eq.mpr c34
         have c34b1 : (t597 != 0) = false := bne_eq_false_iff_eq.mpr c34
         clear c34
         (first | rw [c34b0] | (simp only [i64_w, i32_w]; rw [c34b0]) | skip)
         have H' := Aside0.mk H
         clear H
         go_wp2
         go_meet
         case rel => exact ⟨_, ((t602 != 0)), sd_, H', ⟨by have := HJ7.out; have := HJ17.out; first | omega | exact Nat.le_refl _⟩, ⟨by (with_reducible repeat (first | apply Kd.R_alloc | apply Kd.R_drewN | apply Kd.R_drew)); exact Kd.R_mono HO_20.out (fun _ hk => ⟨hk.1.2, hk.2⟩)⟩, ⟨by (with_reducible repeat (first | apply Kd.R_alloc | apply Kd.R_drewN | apply Kd.R_drew)); exact Kd.R_mono HO599.out (fun _ hk => ⟨hk.1.2, hk.2⟩)⟩, ⟨by (with_reducible repeat (first | apply Kd.R_alloc | apply Kd.R_drewN | apply Kd.R_drew)); exact Kd.R_mono HO604.out (fun _ hk => ⟨hk.1.2, hk.2⟩)⟩, ⟨by repeat (first | (with_reducible first | exact HB.out | apply below_alloc | apply pw_below_drewN | apply below_drew1) | exact HB.out)⟩⟩
        ·rw [if_neg c34] at H
         have c34b0 : (t597 == 0) = false := beq_eq_false_iff_ne.mpr c34
         have c34b1 : (t597 != 0) = true := bne_iff_ne.mpr c34
         (first | rw [c34b0] | (simp only [i64_w, i32_w]; rw [c34b0]) | skip)
         have H' := Aside0.mk H
         clear H
         go_wp2
         go_meet
         case rel => exact ⟨_, (true), sd_, H', ⟨by have := HJ7.out; have := HJ17.out; first | omega | exact Nat.le_refl _⟩, ⟨by (with_reducible repeat (first | apply Kd.R_alloc | apply Kd.R_drewN | apply Kd.R_drew)); exact Kd.R_mono HO_20.out (fun _ hk => ⟨hk.1.2, hk.2⟩)⟩, ⟨by (with_reducible repeat (first | apply Kd.R_alloc | apply Kd.R_drewN | apply Kd.R_drew)); exact Kd.R_mono HO599.out (fun _ hk => ⟨hk.1.2, hk.2⟩)⟩, ⟨by (with_reducible repeat (first | apply Kd.R_alloc | apply Kd.R_drewN | apply Kd.R_drew)); exact Kd.R_mono HO604.out (fun _ hk => ⟨hk.1.2, hk.2⟩)⟩, ⟨by repeat (first | (with_reducible first | exact HB.out | apply below_alloc | apply pw_below_drewN | apply below_drew1) | exact HB.out)⟩⟩
       case rest =>
        clear HC31
        try clear c1
        try clear c2
        try clear p2
        try clear c3
        try clear c4
        try clear c5
        try clear c9
        try clear c10
        try clear c10b0
        try clear c10b1
        try clear c11
        try clear c11b0
        try clear c11b1
        try clear c12
        try clear c19
        try clear c25
        try clear c26
        try clear c26b0
        try clear c26b1
        try clear c27
        try clear c27b0
        try clear c27b1
        try clear c28
        try clear c34
        try clear c34b0
        try clear c34b1
        try clear p2
        obtain ⟨kq, x105_30, rfl, HA, HJ30, HO_20, HO_23, HO_26, HB⟩ := hcut
        cases kq with
        | zero => exact absurd HA.out (by simp [cohousingtop_TopSettles.j2])
        | succ kj30 =>
         have H := HA.out
         clear HA
         simp only [cohousingtop_TopSettles.j2] at H
         by_cases c35 : x105_30 = true
         ·subst c35
          have H1 : (some false) = some r := by rw [if_pos rfl] at H; exact H
          clear H
          have H := H1
          clear H1
          obtain rfl := Option.some.inj H
          go_wp2
          go_ret
          exact ⟨ew_, by repeat (first | (with_reducible first | exact HB.out | apply below_alloc | apply pw_below_drewN | apply below_drew1) | exact HB.out)⟩
         ·replace c35 := Bool.eq_false_iff.mpr c35
          subst c35
          have H1 : (if t575 = true then ((cohousingtop_w17Settled.f kj30 t590 t595 t591 t596).bind fun t605 => (if t605 = true then ((cohousingtop_w17Settled.f kj30 t595 t600 t596 t601).bind fun t606 => (if t606 = true then ((cohousingtop_w17Settled.f kj30 t590 t600 t591 t601).bind fun t607 => (some t607)) else (some false))) else (some false))) else (some false)) = some r := by rw [if_neg (show ¬ (false = true) by decide)] at H; exact H
          clear H
          have H := H1
          clear H1
          by_cases c36 : t575 = true
          ·subst c36
           have H1 : ((cohousingtop_w17Settled.f kj30 t590 t595 t591 t596).bind fun t605 => (if t605 = true then ((cohousingtop_w17Settled.f kj30 t595 t600 t596 t601).bind fun t606 => (if t606 = true then ((cohousingtop_w17Settled.f kj30 t590 t600 t591 t601).bind fun t607 => (some t607)) else (some false))) else (some false))) = some r := by rw [if_pos rfl] at H; exact H
           clear H
           have H := H1
           clear H1
           replace H := Option.bind_eq_some_iff.mp H
           obtain ⟨t605, A370, H⟩ := H
           replace H : (if t605 = true then ((cohousingtop_w17Settled.f kj30 t595 t600 t596 t601).bind fun t606 => (if t606 = true then ((cohousingtop_w17Settled.f kj30 t590 t600 t591 t601).bind fun t607 => (some t607)) else (some false))) else (some false)) = some r := H
           have A37 := Aside0.mk A370
           clear A370
           by_cases c38 : t605 = true
           ·subst c38
            have H1 : ((cohousingtop_w17Settled.f kj30 t595 t600 t596 t601).bind fun t606 => (if t606 = true then ((cohousingtop_w17Settled.f kj30 t590 t600 t591 t601).bind fun t607 => (some t607)) else (some false))) = some r := by rw [if_pos rfl] at H; exact H
            clear H
            have H := H1
            clear H1
            replace H := Option.bind_eq_some_iff.mp H
            obtain ⟨t606, A390, H⟩ := H
            replace H : (if t606 = true then ((cohousingtop_w17Settled.f kj30 t590 t600 t591 t601).bind fun t607 => (some t607)) else (some false)) = some r := H
            have A39 := Aside0.mk A390
            clear A390
            by_cases c40 : t606 = true
            ·subst c40
             have H1 : ((cohousingtop_w17Settled.f kj30 t590 t600 t591 t601).bind fun t607 => (some t607)) = some r := by rw [if_pos rfl] at H; exact H
             clear H
             have H := H1
             clear H1
             replace H := Option.bind_eq_some_iff.mp H
             obtain ⟨t607, A410, H⟩ := H
             replace H : (some t607) = some r := H
             have A41 := Aside0.mk A410
             clear A410
             obtain rfl := Option.some.inj H
             obtain ⟨Ao42, co42, eo42⟩ := Kd.R_slice HO_20.out
             subst eo42
             obtain ⟨Ao43, co43, eo43⟩ := Kd.R_slice HO_23.out
             subst eo43
             go_wp2_with (first | (go_at_call 29; (with_reducible refine (cohousingtop_w17Settled.calls kj30 _ _ t590 _ _ t595 t591 t596 true _ ?side1 ?side2 ?side3 ?side4 A37.out).mono ?_); (case side1 => exact cc_ ((Kd.R_reads' HO_20.out).2.2)); (case side2 => exact (Kd.R_reads' HO_20.out).2.1); (case side3 => exact cc_ ((Kd.R_reads' HO_23.out).2.2)); (case side4 => exact (Kd.R_reads' HO_23.out).2.1); rintro e w44 ⟨rfl, hb⟩; have n0_ := Aside0.mk (Kd.R_below (rr_ HO_20) hb); have n1_ := Aside0.mk (Kd.R_below (rr_ HO_23) hb); have n2_ := Aside0.mk (Kd.R_below (rr_ HO_26) hb); have n3_ := Aside0.mk (below_step (bb_ HB) hb); clear HO_20; clear HO_23; clear HO_26; clear HB; have HO_20 := n0_; have HO_23 := n1_; have HO_26 := n2_; have HB := n3_; clear n0_ n1_ n2_ n3_; (try clear hb); (try clear hb2); (try clear hk); (try clear hi); obtain ⟨Ao45, co45, eo45⟩ := Kd.R_slice HO_26.out; subst eo45) | (go_at_call 29; (with_reducible refine (cohousingtop_w17Settled.calls kj30 _ _ t595 _ _ t600 t596 t601 true _ ?side1 ?side2 ?side3 ?side4 A39.out).mono ?_); (case side1 => exact cc_ ((Kd.R_reads' HO_23.out).2.2)); (case side2 => exact (Kd.R_reads' HO_23.out).2.1); (case side3 => exact cc_ ((Kd.R_reads' HO_26.out).2.2)); (case side4 => exact (Kd.R_reads' HO_26.out).2.1); rintro e w46 ⟨rfl, hb⟩; have n0_ := Aside0.mk (Kd.R_below (rr_ HO_20) hb); have n1_ := Aside0.mk (Kd.R_below (rr_ HO_23) hb); have n2_ := Aside0.mk (Kd.R_below (rr_ HO_26) hb); have n3_ := Aside0.mk (below_step (bb_ HB) hb); clear HO_20; clear HO_23; clear HO_26; clear HB; have HO_20 := n0_; have HO_23 := n1_; have HO_26 := n2_; have HB := n3_; clear n0_ n1_ n2_ n3_; (try clear hb); (try clear hb2); (try clear hk); (try clear hi)) | (go_at_call 29; (with_reducible refine (cohousingtop_w17Settled.calls kj30 _ _ t590 _ _ t600 t591 t601 t607 _ ?side1 ?side2 ?side3 ?side4 A41.out).mono ?_); (case side1 => exact cc_ ((Kd.R_reads' HO_20.out).2.2)); (case side2 => exact (Kd.R_reads' HO_20.out).2.1); (case side3 => exact cc_ ((Kd.R_reads' HO_26.out).2.2)); (case side4 => exact (Kd.R_reads' HO_26.out).2.1); rintro e w47 ⟨rfl, hb⟩; have n0_ := Aside0.mk (Kd.R_below (rr_ HO_20) hb); have n1_ := Aside0.mk (Kd.R_below (rr_ HO_23) hb); have n2_ := Aside0.mk (Kd.R_below (rr_ HO_26) hb); have n3_ := Aside0.mk (below_step (bb_ HB) hb); clear HO_20; clear HO_23; clear HO_26; clear HB; have HO_20 := n0_; have HO_23 := n1_; have HO_26 := n2_; have HB := n3_; clear n0_ n1_ n2_ n3_; (try clear hb); (try clear hb2); (try clear hk); (try clear hi)))
             go_ret
             exact ⟨ew_, by repeat (first | (with_reducible first | exact HB.out | apply below_alloc | apply pw_below_drewN | apply below_drew1) | exact HB.out)⟩
            ·replace c40 := Bool.eq_false_iff.mpr c40
             subst c40
             have H1 : (some false) = some r := by rw [if_neg (show ¬ (false = true) by decide)] at H; exact H
             clear H
             have H := H1
             clear H1
             obtain rfl := Option.some.inj H
             obtain ⟨Ao48, co48, eo48⟩ := Kd.R_slice HO_20.out
             subst eo48
             obtain ⟨Ao49, co49, eo49⟩ := Kd.R_slice HO_23.out
             subst eo49
             go_wp2_with (first | (go_at_call 29; (with_reducible refine (cohousingtop_w17Settled.calls kj30 _ _ t590 _ _ t595 t591 t596 true _ ?side1 ?side2 ?side3 ?side4 A37.out).mono ?_); (case side1 => exact cc_ ((Kd.R_reads' HO_20.out).2.2)); (case side2 => exact (Kd.R_reads' HO_20.out).2.1); (case side3 => exact cc_ ((Kd.R_reads' HO_23.out).2.2)); (case side4 => exact (Kd.R_reads' HO_23.out).2.1); rintro e w50 ⟨rfl, hb⟩; have n0_ := Aside0.mk (Kd.R_below (rr_ HO_20) hb); have n1_ := Aside0.mk (Kd.R_below (rr_ HO_23) hb); have n2_ := Aside0.mk (Kd.R_below (rr_ HO_26) hb); have n3_ := Aside0.mk (below_step (bb_ HB) hb); clear HO_20; clear HO_23; clear HO_26; clear HB; have HO_20 := n0_; have HO_23 := n1_; have HO_26 := n2_; have HB := n3_; clear n0_ n1_ n2_ n3_; (try clear hb); (try clear hb2); (try clear hk); (try clear hi); obtain ⟨Ao51, co51, eo51⟩ := Kd.R_slice HO_26.out; subst eo51) | (go_at_call 29; (with_reducible refine (cohousingtop_w17Settled.calls kj30 _ _ t595 _ _ t600 t596 t601 false _ ?side1 ?side2 ?side3 ?side4 A39.out).mono ?_); (case side1 => exact cc_ ((Kd.R_reads' HO_23.out).2.2)); (case side2 => exact (Kd.R_reads' HO_23.out).2.1); (case side3 => exact cc_ ((Kd.R_reads' HO_26.out).2.2)); (case side4 => exact (Kd.R_reads' HO_26.out).2.1); rintro e w52 ⟨rfl, hb⟩; have n0_ := Aside0.mk (Kd.R_below (rr_ HO_20) hb); have n1_ := Aside0.mk (Kd.R_below (rr_ HO_23) hb); have n2_ := Aside0.mk (Kd.R_below (rr_ HO_26) hb); have n3_ := Aside0.mk (below_step (bb_ HB) hb); clear HO_20; clear HO_23; clear HO_26; clear HB; have HO_20 := n0_; have HO_23 := n1_; have HO_26 := n2_; have HB := n3_; clear n0_ n1_ n2_ n3_; (try clear hb); (try clear hb2); (try clear hk); (try clear hi)))
             go_ret
             exact ⟨ew_, by repeat (first | (with_reducible first | exact HB.out | apply below_alloc | apply pw_below_drewN | apply below_drew1) | exact HB.out)⟩
           ·replace c38 := Bool.eq_false_iff.mpr c38
            subst c38
            have H1 : (some false) = some r := by rw [if_neg (show ¬ (false = true) by decide)] at H; exact H
            clear H
            have H := H1
            clear H1
            obtain rfl := Option.some.inj H
            obtain ⟨Ao53, co53, eo53⟩ := Kd.R_slice HO_20.out
            subst eo53
            obtain ⟨Ao54, co54, eo54⟩ := Kd.R_slice HO_23.out
            subst eo54
            go_wp2_with (first | (go_at_call 29; (with_reducible refine (cohousingtop_w17Settled.calls kj30 _ _ t590 _ _ t595 t591 t596 false _ ?side1 ?side2 ?side3 ?side4 A37.out).mono ?_); (case side1 => exact cc_ ((Kd.R_reads' HO_20.out).2.2)); (case side2 => exact (Kd.R_reads' HO_20.out).2.1); (case side3 => exact cc_ ((Kd.R_reads' HO_23.out).2.2)); (case side4 => exact (Kd.R_reads' HO_23.out).2.1); rintro e w55 ⟨rfl, hb⟩; have n0_ := Aside0.mk (Kd.R_below (rr_ HO_20) hb); have n1_ := Aside0.mk (Kd.R_below (rr_ HO_23) hb); have n2_ := Aside0.mk (Kd.R_below (rr_ HO_26) hb); have n3_ := Aside0.mk (below_step (bb_ HB) hb); clear HO_20; clear HO_23; clear HO_26; clear HB; have HO_20 := n0_; have HO_23 := n1_; have HO_26 := n2_; have HB := n3_; clear n0_ n1_ n2_ n3_; (try clear hb); (try clear hb2); (try clear hk); (try clear hi)))
            go_ret
            exact ⟨ew_, by repeat (first | (with_reducible first | exact HB.out | apply below_alloc | apply pw_below_drewN | apply below_drew1) | exact HB.out)⟩
          ·replace c36 := Bool.eq_false_iff.mpr c36
           subst c36
           have H1 : (some false) = some r := by rw [if_neg (show ¬ (false = true) by decide)] at H; exact H
           clear H
           have H := H1
           clear H1
           obtain rfl := Option.some.inj H
           go_wp2
           go_ret
           exact ⟨ew_, by repeat (first | (with_reducible first | exact HB.out | apply below_alloc | apply pw_below_drewN | apply below_drew1) | exact HB.out)⟩
end
end Go.Proofs.Ythjjabcbngffoaa.P
end
section
namespace Go.Proofs.Ythjjabcbngffoaa.P
open Go.RowKit Go.Proofs.YthjjabcbngffoaaW.PrintWords Go.Proofs.YthjjabcbngffoaaW.PrintLast Go.Proofs.YthjjabcbngffoaaW.PrintMore Go.Proofs.YthjjabcbngffoaaH Go.Proofs.FlowTree
open Classical
def cutAt (known more : List RG) (j : Nat) : RG := if j < more.length ∧ max (rr known j).f0 (rr more j).f0 ≤ min (rr known j).f1 (rr more j).f1 then ⟨max (rr known j).f0 (rr more j).f0, min (rr known j).f1 (rr more j).f1⟩ else rr known j
def cutN (known more : List RG) (i : Nat) : List RG := (List.range known.length).map (fun j => if j < i then cutAt known more j else rr known j)
theorem cutN_len (known more : List RG) (i : Nat) : (cutN known more i).length = known.length := by unfold cutN; rw [List.length_map, List.length_range]
theorem rx_rng (f : Nat → RG) (n j : Nat) (h : j < n) : rr ((List.range n).map f) j = f j := by
 simp [rr, rd_T38, List.getD_eq_getElem?_getD, h]
theorem cutN_at (known more : List RG) (i j : Nat) (h : j < known.length) : rr (cutN known more i) j = if j < i then cutAt known more j else rr known j := rx_rng _ _ _ h
theorem cutN_zero (known more : List RG) : cutN known more 0 = known := by
 apply List.ext_getElem
 ·rw [cutN_len]
 ·intro i h1 h2
  simp [cutN, rr, rd_T38, List.getD_eq_getElem?_getD, h2]
theorem rx_ext {a b : List RG} (hl : a.length = b.length) (h : ∀ j, j < a.length → rr a j = rr b j) : a = b := by
 apply List.ext_getElem hl
 intro i h1 h2
 have := h i h1
 simpa [rr, rd_T38, List.getD_eq_getElem?_getD, h1, h2] using this
theorem rx_set (a : List RG) (i j : Nat) (y : RG) (hi : i < a.length) : rr (a.set i y) j = if i = j then y else rr a j := by
 simp only [rr, rd_T38, List.getD_eq_getElem?_getD, Int.toNat_natCast, List.getElem?_set]
 by_cases e : i = j
 ·subst e; simp [hi]
 ·simp [e]
theorem cutN_set (known more : List RG) (i : Nat) (hi : i < known.length) : (cutN known more i).set i (cutAt known more i) = cutN known more (i + 1) := by
 apply rx_ext
 ·rw [List.length_set, cutN_len, cutN_len]
 ·intro j hj
  rw [List.length_set, cutN_len] at hj
  rw [rx_set _ _ _ _ (by rw [cutN_len]; exact hi), cutN_at _ _ _ _ hj, cutN_at _ _ _ _ hj]
  by_cases e : i = j
  ·subst e; rw [if_pos rfl, if_pos (by omega)]
  ·rw [if_neg e]
   by_cases h : j < i
   ·rw [if_pos h, if_pos (by omega)]
   ·rw [if_neg h, if_neg (by omega)]
theorem cutN_same (known more : List RG) (i : Nat) (hi : i < known.length) (h : cutAt known more i = rr known i) : cutN known more (i + 1) = cutN known more i := by
 rw [← cutN_set known more i hi]
 apply rx_ext
 ·rw [List.length_set]
 ·intro j hj
  rw [List.length_set, cutN_len] at hj
  rw [rx_set _ _ _ _ (by rw [cutN_len]; exact hi)]
  by_cases e : i = j
  ·subst e; rw [if_pos rfl, h, cutN_at _ _ _ _ hj, if_neg (Nat.lt_irrefl _)]
  ·rw [if_neg e]
theorem cut_l0 (known more : List RG) (hn : known.length ≤ 200) : ∀ d i : Nat, i + d = known.length →
  Ev (fun k => cohousingtop_w17Cut.l0 k more (cutN known more i) (known.length : Int) (i : Int)) (cutN known more known.length) := by
 intro d
 induction d with
 | zero =>
  intro i hi
  have e : i = known.length := by omega
  subst e
  refine Ev.step ?_
  simp only [cohousingtop_w17Cut.l0, Int.lt_irrefl, if_false]
  exact Ev.pure _
 | succ d ih =>
  intro i hi
  have hil : i < known.length := by omega
  have h1 : ((i : Int) < (known.length : Int)) := by omega
  have h2 : (0 : Int) ≤ (i : Int) := by omega
  have h3 : ((i : Int) < ((cutN known more i).length : Int)) := by rw [cutN_len]; omega
  have hw := wrap_nat (show i ≤ 140737488355328 by omega)
  have e1 : rd_T38 (cutN known more i) (i : Int) = rr known i := by
   have := cutN_at known more i i hil
   rw [if_neg (Nat.lt_irrefl _)] at this
   exact this
  have e2 : rd_T38 more (i : Int) = rr more i := rfl
  have e3 : ((i : Int)).toNat = i := Int.toNat_natCast i
  have hrec := ih (i + 1) (by omega)
  refine Ev.step ?_
  by_cases h4 : i < more.length
  ·have h4' : ((i : Int) < (more.length : Int)) := by omega
   by_cases h5 : max (rr known i).f0 (rr more i).f0 ≤ min (rr known i).f1 (rr more i).f1
   ·have e4 : (⟨max (rr known i).f0 (rr more i).f0, min (rr known i).f1 (rr more i).f1⟩ : RG) = cutAt known more i := by unfold cutAt; rw [if_pos ⟨h4, h5⟩]
    simp only [cohousingtop_w17Cut.l0, h1, h2, h3, h4', if_true, e1, e2, mx_max, mn_min, h5, hw, e3, e4, cutN_set known more i hil]
    exact hrec
   ·have e4 : cutAt known more i = rr known i := by unfold cutAt; rw [if_neg (fun h => h5 h.2)]
    rw [cutN_same known more i hil e4] at hrec
    simp only [cohousingtop_w17Cut.l0, h1, h2, h3, h4', if_true, e1, e2, mx_max, mn_min, h5, if_false, hw]
    exact hrec
  ·have h4' : ¬ ((i : Int) < (more.length : Int)) := by omega
   have e4 : cutAt known more i = rr known i := by unfold cutAt; rw [if_neg (fun h => h4 h.1)]
   rw [cutN_same known more i hil e4] at hrec
   simp only [cohousingtop_w17Cut.l0, h1, if_true, h4', if_false, hw]
   exact hrec
def cutL (known more : List RG) : List RG := cutN known more known.length
theorem cutL_len (known more : List RG) : (cutL known more).length = known.length := cutN_len _ _ _
theorem cut_ev (known more : List RG) (hn : known.length ≤ 200) : Ev (fun k => cohousingtop_w17Cut.f k known more) (cutL known more) := by
 unfold cohousingtop_w17Cut.f
 have h1 : ([] : List RG).length + known.length < 8796093022208 := by simp only [List.length_nil]; omega
 simp only [Option.bind_some, h1, if_true, List.nil_append]
 have := cut_l0 known more hn known.length 0 (by omega)
 rw [cutN_zero] at this
 exact this
theorem within_cut {l : List PI} {known : List RG} (more : List RG) (hl : known.length = l.length) : Within l known (cutL known more) := fun j hj => by
 have e := cutN_at known more known.length j (by omega)
 rw [if_pos (by omega)] at e
 have e1 : lo9 (cutL known more) j = (cutAt known more j).f0 := congrArg (·.f0) e
 have e2 : hi9 (cutL known more) j = (cutAt known more j).f1 := congrArg (·.f1) e
 rw [e1, e2]
 have k1 : lo9 known j = (rr known j).f0 := rfl
 have k2 : hi9 known j = (rr known j).f1 := rfl
 rw [k1, k2]
 unfold cutAt
 split
 ·constructor
  ·exact Int.le_max_left _ _
  ·exact Int.min_le_left _ _
 ·exact ⟨Int.le_refl _, Int.le_refl _⟩
theorem Within.trans {l : List PI} {r r' r'' : List RG} (h : Within l r r') (h' : Within l r' r'') : Within l r r'' := fun j hj => by
 have := h j hj
 have := h' j hj
 omega
theorem settles_ (c : Int) (l : List PI) (known more last : List RG) (homes : List Int) : Ev (fun k => cohousingtop_TopSettles.f k c l known more last homes) true := by
 have hout : Ev (fun k => cohousingtop_TopSettles.j0 k c l known more last homes true true) true := by
  refine Ev.step ?_
  simp only [cohousingtop_TopSettles.j0, if_true]
  exact Ev.pure _
 have hout1 : ∀ (a b : List RG) (q : List CH) (h : Int), Ev (fun k => cohousingtop_TopSettles.j1 k c l homes true a b q h true) true := fun a b q h => by
  refine Ev.step ?_
  simp only [cohousingtop_TopSettles.j1, if_true]
  exact Ev.pure _
 unfold cohousingtop_TopSettles.f
 simp only [pipes_f, Option.bind_some]
 by_cases h1 : (l.length : Int) > 20
 ·simp only [h1, if_true]; exact hout
 by_cases h2 : (known.length : Int) > 20
 ·simp only [h1, h2, if_true, if_false]; exact hout
 by_cases h3 : (homes.length : Int) > 20
 ·simp only [h1, h2, if_false, decide_eq_true h3]; exact hout
 simp only [h1, h2, if_false, decide_eq_false h3]
 refine Ev.step ?_
 simp only [cohousingtop_TopSettles.j0, Bool.false_eq_true, if_false]
 refine Ev.bnd (cut_ev known more (by omega)) ?_
 refine Ev.bnd (cut_ev (cutL known more) last (by rw [cutL_len]; omega)) ?_
 obtain ⟨r2, hr2⟩ : ∃ r2, r2 = cutL known more := ⟨_, rfl⟩
 obtain ⟨r3, hr3⟩ : ∃ r3, r3 = cutL r2 last := ⟨_, rfl⟩
 have hl2 : r2.length = known.length := by rw [hr2, cutL_len]
 have hl3 : r3.length = known.length := by rw [hr3, cutL_len, hl2]
 rw [← hr2, ← hr3]
 simp only [gB_f (r := r2) (show l.length ≤ 200 by omega) (by omega), gB_f (r := r3) (show l.length ≤ 200 by omega) (by omega), gN_f (c := c) (r := known) (h := homes) (show l.length ≤ 200 by omega) (by omega), Option.bind_some]
 by_cases hz : (networkC c l known homes).2.2 = 0
 case neg => simp only [hz, if_false]; exact hout1 _ _ _ _
 by_cases hb2 : (boundsR l r2).2 = 0
 case neg => simp only [hz, hb2, if_true, if_false]; exact hout1 _ _ _ _
 by_cases hb3 : (boundsR l r3).2 = 0
 case neg =>
  have e : ((boundsR l r3).2 != 0) = true := bne_iff_ne.2 hb3
  simp only [hz, hb2, if_true, e]
  exact hout1 _ _ _ _
 have e3 : ((boundsR l r3).2 != 0) = false := by rw [bne_eq_false_iff_eq]; exact hb3
 simp only [hz, hb2, if_true, e3]
 obtain ⟨d, m, p, hN⟩ := network_ok hz
 obtain ⟨d2, b2, g2, x2⟩ := bounds_ok hb2
 obtain ⟨d3, b3, g3, x3⟩ := bounds_ok hb3
 have hlen := hN.good.len
 have w12 : Within l known r2 := by rw [hr2]; exact within_cut more hlen
 have w23 : Within l r2 r3 := by rw [hr3]; exact within_cut last (by omega)
 have w13 := w12.trans w23
 obtain ⟨p2, n2, P2, L2, F2, H2, hh⟩ := net_second hN hz w12 b2 x2
 obtain ⟨p3, n3, P3, L3, F3, H3, _⟩ := net_second hN hz w13 b3 x3
 have i12 := within_exact w12 hN.exact x2
 have i13 := within_exact w13 hN.exact x3
 have i23 := within_exact w23 x2 x3
 have hP : PartsOk c (Lo d m) (parts l d) := hN.parts
 have hLow : LowAt homes c (Lo d m) (parts l d) (parts l d).length p := hN.low
 have hFl : ¬ Lo d m < leastN (parts l d) (parts l d).length := hN.flow
 have hH : homes.length = (parts l d).length := by rw [H2, parts_len, parts_len]
 have hres := hN.res
 rw [hres]
 refine Ev.step ?_
 simp only [cohousingtop_TopSettles.j1, Bool.false_eq_true, if_false, gN_f (c := c) (r := r2) (h := homes) (show l.length ≤ 200 by omega) (by omega), gN_f (c := c) (r := r3) (h := homes) (show l.length ≤ 200 by omega) (by omega), Option.bind_some, n2, n3, if_true, bne_self_eq_false]
 refine Ev.step ?_
 simp only [cohousingtop_TopSettles.j2, Bool.false_eq_true, if_false, if_true]
 refine Ev.bnd (net_settled (by omega) i12 hP P2 hLow L2 hFl F2 hH hh) ?_
 simp only [if_true]
 refine Ev.bnd (net_settled (by omega) i23 P2 P3 L2 L3 F2 F3 H2 hh) ?_
 simp only [if_true]
 refine Ev.bnd (net_settled (by omega) i13 hP P3 hLow L3 hFl F3 hH hh) ?_
 exact Ev.pure _
end Go.Proofs.Ythjjabcbngffoaa.P
end
