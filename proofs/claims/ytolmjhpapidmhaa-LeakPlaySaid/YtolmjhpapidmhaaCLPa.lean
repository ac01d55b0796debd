/- Part 1 of the proof of LeakPlay: what it alone needs. -/
import Derived.Test.YtolmjhpapidmhaaCBe
set_option linter.unusedVariables false
set_option linter.unusedSimpArgs false
section
namespace Go.Proofs.Ytolmjhpapidmhaa.P
open Go.RowKit Go.Proofs.YtolmjhpapidmhaaW.PrintWords Go.Proofs.YtolmjhpapidmhaaW.PrintLast Go.Proofs.YtolmjhpapidmhaaW.PrintMore
attribute [local go_sem] max2_int min2_int max_two min_two max_three min_three max_four min_four
set_option linter.unusedVariables false
set_option linter.unusedSimpArgs false
set_option maxHeartbeats 8000000
set_option maxRecDepth 100000
section
def cohousinglaw30_LeakPlay.j0 : Nat → List (S44) → List (S46) → Int → Int → Int → Int → Bool → Bool → Option (Bool)
 | 0, _, _, _, _, _, _, _, _ => none
 | k + 1, x0, x1, x2, x3, x4, x5, x13, x34 => if x34 = true then (some x13) else ((some (([] : List (S44)) : List (S44))).bind fun y471 => (if y471.length + x0.length < 5864062014805 then ((some (y471 ++ x0 : List (S44))).bind fun y474 => ((some (([] : List (S46)) : List (S46))).bind fun y477 => (if y477.length + x1.length < 8796093022208 then ((some (y477 ++ x1 : List (S46))).bind fun y480 => (if (x0.length : Int) = 0 then (none) else (if 0 ≤ (Int.tmod (wrap64 (x3)) (x0.length : Int)) then (if (Int.tmod (wrap64 (x3)) (x0.length : Int)) < (y474.length : Int) then (if 0 ≤ (Int.tmod (wrap64 (x4)) (x0.length : Int)) then (if (Int.tmod (wrap64 (x4)) (x0.length : Int)) < (y480.length : Int) then ((some (y480.set ((Int.tmod (wrap64 (x4)) (x0.length : Int)) : Int).toNat (⟨mx (wrap64 (((rd_T46 y480 (Int.tmod (wrap64 (x4)) (x0.length : Int))).f0) - (wrap64 (x5)))) 0, (rd_T46 y480 (Int.tmod (wrap64 (x4)) (x0.length : Int))).f1⟩ : S46) : List (S46))).bind fun y487 => ((leak_Explain.f x0 x1 x2).bind fun bt489 => ((leak_Explain.f (y474.set ((Int.tmod (wrap64 (x3)) (x0.length : Int)) : Int).toNat (⟨(rd_T44 y474 (Int.tmod (wrap64 (x3)) (x0.length : Int))).f0, (rd_T44 y474 (Int.tmod (wrap64 (x3)) (x0.length : Int))).f1, mn (wrap64 (((rd_T44 y474 (Int.tmod (wrap64 (x3)) (x0.length : Int))).f2) + (wrap64 (x5)))) 1000000000⟩ : S44)) (y487.set ((Int.tmod (wrap64 (x4)) (x0.length : Int)) : Int).toNat (⟨(rd_T46 y487 (Int.tmod (wrap64 (x4)) (x0.length : Int))).f0, mn (wrap64 (((rd_T46 y480 (Int.tmod (wrap64 (x4)) (x0.length : Int))).f1) + (wrap64 (x5)))) 1000000000⟩ : S46)) x2).bind fun bt494 => (if x13 = true then (if bt489.2.2 = 0 then (if bt494.2.2 = 0 then (if bt489.2.1 = true then (if bt494.2.1 = true then (some (decide ((bt494.1.length : Int) ≤ (bt489.1.length : Int)))) else (some false)) else (some true)) else (some false)) else (some false)) else (some false))))) else (none)) else (none)) else (none)) else (none)))) else (none)))) else (none)))
def cohousinglaw30_LeakPlay.f (k : Nat) (l0 : List (S44)) (l1 : List (S46)) (a2 : Int) (a3 : Int) (a4 : Int) (a5 : Int) : Option (Bool) := (cohousinglaw30_head.f k).bind fun t469 => ((cohousinglaw30_usable.f k l0 l1 a2).bind fun t470 => (if t470 = true then (cohousinglaw30_LeakPlay.j0 k l0 l1 a2 a3 a4 a5 t469 ((l0.length : Int) == 0)) else (cohousinglaw30_LeakPlay.j0 k l0 l1 a2 a3 a4 a5 t469 true)))
def cohousinglaw30_LeakPlay.T6 : Bool × List (List Nat × List Nat) := (true, [([], []), ([0], [0]), ([], []), ([2], [2]), ([1, 3], [1, 3]), ([], []), ([5], [5]), ([], []), ([7], [7]), ([6, 8], [6, 8]), ([4, 0, 1, 2, 3, 4], [4]), ([9, 10, 0, 1, 2, 3, 4, 5, 6, 7, 8, 9, 10], [9])])
def cohousinglaw30_LeakPlay.B6 : List Nat := [0, 1, 0, 4, 15, 0, 32, 0, 128, 480, 31, 2047]
theorem cohousinglaw30_LeakPlay.tab6 : rtab .any (opsOf Try.f9 6) = cohousinglaw30_LeakPlay.T6 := by kernel_rfl
theorem cohousinglaw30_LeakPlay.bits6 : waitsOk cohousinglaw30_LeakPlay.T6.2 cohousinglaw30_LeakPlay.B6 = true := by kernel_rfl
def cohousinglaw30_LeakPlay.T8 : Bool × List (List Nat × List Nat) := (true, [([], []), ([], []), ([], []), ([], []), ([], []), ([], []), ([4, 5], [4, 5]), ([6], [6]), ([7], [7]), ([], []), ([9], [9]), ([8, 10], [8, 10]), ([11], [11]), ([], []), ([], []), ([13, 14], [13, 14]), ([15], [15]), ([16], [16]), ([], []), ([18], [18]), ([17, 19], [17, 19]), ([20], [20]), ([0, 1, 0, 1, 4, 5, 6, 7, 8, 9, 10, 11, 12, 17], [0, 1]), ([22, 0, 1, 4, 5, 6, 7, 8, 9, 10, 11, 12, 17], [22]), ([23, 12, 0, 1, 4, 5, 6, 7, 8, 9, 10, 11, 12, 17], [12, 23]), ([2, 3, 0, 1, 2, 3, 4, 5, 6, 7, 8, 9, 10, 11, 12, 13, 14, 15, 16, 17, 18, 19, 20, 21, 22, 23, 24], [2, 3]), ([25, 0, 1, 2, 3, 4, 5, 6, 7, 8, 9, 10, 11, 12, 13, 14, 15, 16, 17, 18, 19, 20, 21, 22, 23, 24], [25]), ([26, 21, 24, 0, 1, 2, 3, 4, 5, 6, 7, 8, 9, 10, 11, 12, 13, 14, 15, 16, 17, 18, 19, 20, 21, 22, 23, 24], [21, 26])])
def cohousinglaw30_LeakPlay.B8 : List Nat := [0, 0, 0, 0, 0, 0, 48, 112, 240, 0, 512, 2032, 4080, 0, 0, 24576, 57344, 122880, 0, 262144, 1040384, 2088960, 262131, 4456435, 12845043, 33554431, 67108863, 134217727]
theorem cohousinglaw30_LeakPlay.tab8 : rtab .any (opsOf Try.f9 8) = cohousinglaw30_LeakPlay.T8 := by kernel_rfl
theorem cohousinglaw30_LeakPlay.bits8 : waitsOk cohousinglaw30_LeakPlay.T8.2 cohousinglaw30_LeakPlay.B8 = true := by kernel_rfl
theorem cohousinglaw30_LeakPlay.calls (k : Nat) (A0 : Option Addr) (c0 : Nat) (l0 : List (S44)) (A1 : Option Addr) (c1 : Nat) (l1 : List (S46)) (a2 : Int) (a3 : Int) (a4 : Int) (a5 : Int) (r : Bool) (w : World) (hr0 : Kd.C k44 w A0 l0.length l0) (hc0 : l0.length ≤ c0) (hr1 : Kd.C k46 w A1 l1.length l1) (hc1 : l1.length ≤ c1) (h : cohousinglaw30_LeakPlay.f k l0 l1 a2 a3 a4 a5 = some r) :
  Calls Try.prog 9 #[.slice A0 l0.length c0, .slice A1 l1.length c1, .int .i64 a2, .int .u8 a3, .int .u8 a4, .int .u16 a5] w fun e w' => e = .returned (.bool r) ∧ Below w.heap.size w w' := by
 have HR0 := Aside0.mk hr0
 have HC0 := Aside0.mk hc0
 clear hr0 hc0
 have HR1 := Aside0.mk hr1
 have HC1 := Aside0.mk hc1
 clear hr1 hc1
 have HB := Aside0.mk (Below.refl w.heap.size w)
 have H : ((cohousinglaw30_head.f k).bind fun t469 => ((cohousinglaw30_usable.f k l0 l1 a2).bind fun t470 => (if t470 = true then (cohousinglaw30_LeakPlay.j0 k l0 l1 a2 a3 a4 a5 t469 ((l0.length : Int) == 0)) else (cohousinglaw30_LeakPlay.j0 k l0 l1 a2 a3 a4 a5 t469 true)))) = some r := h
 clear h
 replace H := Option.bind_eq_some_iff.mp H
 obtain ⟨t469, A70, H⟩ := H
 replace H : ((cohousinglaw30_usable.f k l0 l1 a2).bind fun t470 => (if t470 = true then (cohousinglaw30_LeakPlay.j0 k l0 l1 a2 a3 a4 a5 t469 ((l0.length : Int) == 0)) else (cohousinglaw30_LeakPlay.j0 k l0 l1 a2 a3 a4 a5 t469 true))) = some r := H
 have A7 := Aside0.mk A70
 clear A70
 have HC8 := Aside0.mk H
 clear H
 go_enter Try.func9, Try.ntmps9
 go_upto_region 2 with (first | ((with_reducible refine gate_callee (f := 11) rfl ?_); refine gl_ (some 24) Try.func11 #[] ?_; (with_reducible refine (cohousinglaw30_head.calls k  t469 _ A7.out).mono ?_); rintro e w9 ⟨rfl, hb⟩; refine ⟨_, rfl, ?_⟩; have n0_ := Aside0.mk (below_step (bb_ HB) hb); clear HB; have HB := n0_; clear n0_; (try clear hb); (try clear hb2); (try clear hk); (try clear hi)))
 (try simp only [Act.put, sI_, s0_, sS_])
 go_cut [34] (fun v34 wc => ∃ (kq : Nat) (x34_7 : Bool), v34 = .bool x34_7 ∧ Aside0 (cohousinglaw30_LeakPlay.j0 kq l0 l1 a2 a3 a4 a5 t469 x34_7 = some r) ∧ Aside0 (kq ≤ k) ∧ Aside0 (Below w.heap.size w wc))
 case first =>
  have H := HC8.out
  clear HC8
  replace H := Option.bind_eq_some_iff.mp H
  obtain ⟨t470, A100, H⟩ := H
  replace H : (if t470 = true then (cohousinglaw30_LeakPlay.j0 k l0 l1 a2 a3 a4 a5 t469 ((l0.length : Int) == 0)) else (cohousinglaw30_LeakPlay.j0 k l0 l1 a2 a3 a4 a5 t469 true)) = some r := H
  have A10 := Aside0.mk A100
  clear A100
  by_cases c11 : t470 = true
  ·subst c11
   have H1 : (cohousinglaw30_LeakPlay.j0 k l0 l1 a2 a3 a4 a5 t469 ((l0.length : Int) == 0)) = some r := by rw [if_pos rfl] at H; exact H
   clear H
   have H := H1
   clear H1
   have H' := Aside0.mk H
   clear H
   go_wp2_with (first | ((with_reducible refine gate_callee (f := 18) rfl ?_); refine gl_ (some 28) Try.func18 #[.slice A0 l0.length c0, .slice A1 l1.length c1, .int .i64 a2] ?_; (with_reducible refine (cohousinglaw30_usable.calls k _ _ l0 _ _ l1 a2 true _ ?side1 ?side2 ?side3 ?side4 A10.out).mono ?_); (case side1 => exact cc_ ((Kd.C_below HR0.out HB.out))); (case side2 => exact HC0.out); (case side3 => exact cc_ ((Kd.C_below HR1.out HB.out))); (case side4 => exact HC1.out); rintro e w12 ⟨rfl, hb⟩; refine ⟨_, rfl, ?_⟩; have n0_ := Aside0.mk (below_step (bb_ HB) hb); clear HB; have HB := n0_; clear n0_; (try clear hb); (try clear hb2); (try clear hk); (try clear hi)))
   go_meet
   case rel => exact ⟨_, (((l0.length : Int) == 0)), sd_, H', ⟨by first | omega | exact Nat.le_refl _⟩, ⟨by repeat (first | (with_reducible first | exact HB.out | apply below_alloc | apply pw_below_drewN | apply below_drew1) | exact HB.out)⟩⟩
  ·replace c11 := Bool.eq_false_iff.mpr c11
   subst c11
   have H1 : (cohousinglaw30_LeakPlay.j0 k l0 l1 a2 a3 a4 a5 t469 true) = some r := by rw [if_neg (show ¬ (false = true) by decide)] at H; exact H
   clear H
   have H := H1
   clear H1
   have H' := Aside0.mk H
   clear H
   go_wp2_with (first | ((with_reducible refine gate_callee (f := 18) rfl ?_); refine gl_ (some 28) Try.func18 #[.slice A0 l0.length c0, .slice A1 l1.length c1, .int .i64 a2] ?_; (with_reducible refine (cohousinglaw30_usable.calls k _ _ l0 _ _ l1 a2 false _ ?side1 ?side2 ?side3 ?side4 A10.out).mono ?_); (case side1 => exact cc_ ((Kd.C_below HR0.out HB.out))); (case side2 => exact HC0.out); (case side3 => exact cc_ ((Kd.C_below HR1.out HB.out))); (case side4 => exact HC1.out); rintro e w13 ⟨rfl, hb⟩; refine ⟨_, rfl, ?_⟩; have n0_ := Aside0.mk (below_step (bb_ HB) hb); clear HB; have HB := n0_; clear n0_; (try clear hb); (try clear hb2); (try clear hk); (try clear hi)))
   go_meet
   case rel => exact ⟨_, (true), sd_, H', ⟨by first | omega | exact Nat.le_refl _⟩, ⟨by repeat (first | (with_reducible first | exact HB.out | apply below_alloc | apply pw_below_drewN | apply below_drew1) | exact HB.out)⟩⟩
 case rest =>
  clear HC8
  try clear c1
  try clear p2
  try clear c9
  try clear c11
  obtain ⟨kq, x34_7, rfl, HA, HJ7, HB⟩ := hcut
  cases kq with
  | zero => exact absurd HA.out (by simp [cohousinglaw30_LeakPlay.j0])
  | succ kj7 =>
   have H := HA.out
   clear HA
   simp only [cohousinglaw30_LeakPlay.j0] at H
   by_cases c14 : x34_7 = true
   ·subst c14
    have H1 : (some t469) = some r := by rw [if_pos rfl] at H; exact H
    clear H
    have H := H1
    clear H1
    obtain rfl := Option.some.inj H
    go_wp2
    go_ret
    exact ⟨ew_, by repeat (first | (with_reducible first | exact HB.out | apply below_alloc | apply pw_below_drewN | apply below_drew1) | exact HB.out)⟩
   ·replace c14 := Bool.eq_false_iff.mpr c14
    subst c14
    have H1 : ((some (([] : List (S44)) : List (S44))).bind fun y471 => (if y471.length + l0.length < 5864062014805 then ((some (y471 ++ l0 : List (S44))).bind fun y474 => ((some (([] : List (S46)) : List (S46))).bind fun y477 => (if y477.length + l1.length < 8796093022208 then ((some (y477 ++ l1 : List (S46))).bind fun y480 => (if (l0.length : Int) = 0 then (none) else (if 0 ≤ (Int.tmod (wrap64 (a3)) (l0.length : Int)) then (if (Int.tmod (wrap64 (a3)) (l0.length : Int)) < (y474.length : Int) then (if 0 ≤ (Int.tmod (wrap64 (a4)) (l0.length : Int)) then (if (Int.tmod (wrap64 (a4)) (l0.length : Int)) < (y480.length : Int) then ((some (y480.set ((Int.tmod (wrap64 (a4)) (l0.length : Int)) : Int).toNat (⟨mx (wrap64 (((rd_T46 y480 (Int.tmod (wrap64 (a4)) (l0.length : Int))).f0) - (wrap64 (a5)))) 0, (rd_T46 y480 (Int.tmod (wrap64 (a4)) (l0.length : Int))).f1⟩ : S46) : List (S46))).bind fun y487 => ((leak_Explain.f l0 l1 a2).bind fun bt489 => ((leak_Explain.f (y474.set ((Int.tmod (wrap64 (a3)) (l0.length : Int)) : Int).toNat (⟨(rd_T44 y474 (Int.tmod (wrap64 (a3)) (l0.length : Int))).f0, (rd_T44 y474 (Int.tmod (wrap64 (a3)) (l0.length : Int))).f1, mn (wrap64 (((rd_T44 y474 (Int.tmod (wrap64 (a3)) (l0.length : Int))).f2) + (wrap64 (a5)))) 1000000000⟩ : S44)) (y487.set ((Int.tmod (wrap64 (a4)) (l0.length : Int)) : Int).toNat (⟨(rd_T46 y487 (Int.tmod (wrap64 (a4)) (l0.length : Int))).f0, mn (wrap64 (((rd_T46 y480 (Int.tmod (wrap64 (a4)) (l0.length : Int))).f1) + (wrap64 (a5)))) 1000000000⟩ : S46)) a2).bind fun bt494 => (if t469 = true then (if bt489.2.2 = 0 then (if bt494.2.2 = 0 then (if bt489.2.1 = true then (if bt494.2.1 = true then (some (decide ((bt494.1.length : Int) ≤ (bt489.1.length : Int)))) else (some false)) else (some true)) else (some false)) else (some false)) else (some false))))) else (none)) else (none)) else (none)) else (none)))) else (none)))) else (none))) = some r := by rw [if_neg (show ¬ (false = true) by decide)] at H; exact H
    clear H
    have H := H1
    clear H1
    obtain ⟨y471, hy471⟩ : ∃ y_ : List (S44), y_ = (([] : List (S44))) := ⟨_, rfl⟩
    replace H : (if y471.length + l0.length < 5864062014805 then ((some (y471 ++ l0 : List (S44))).bind fun y474 => ((some (([] : List (S46)) : List (S46))).bind fun y477 => (if y477.length + l1.length < 8796093022208 then ((some (y477 ++ l1 : List (S46))).bind fun y480 => (if (l0.length : Int) = 0 then (none) else (if 0 ≤ (Int.tmod (wrap64 (a3)) (l0.length : Int)) then (if (Int.tmod (wrap64 (a3)) (l0.length : Int)) < (y474.length : Int) then (if 0 ≤ (Int.tmod (wrap64 (a4)) (l0.length : Int)) then (if (Int.tmod (wrap64 (a4)) (l0.length : Int)) < (y480.length : Int) then ((some (y480.set ((Int.tmod (wrap64 (a4)) (l0.length : Int)) : Int).toNat (⟨mx (wrap64 (((rd_T46 y480 (Int.tmod (wrap64 (a4)) (l0.length : Int))).f0) - (wrap64 (a5)))) 0, (rd_T46 y480 (Int.tmod (wrap64 (a4)) (l0.length : Int))).f1⟩ : S46) : List (S46))).bind fun y487 => ((leak_Explain.f l0 l1 a2).bind fun bt489 => ((leak_Explain.f (y474.set ((Int.tmod (wrap64 (a3)) (l0.length : Int)) : Int).toNat (⟨(rd_T44 y474 (Int.tmod (wrap64 (a3)) (l0.length : Int))).f0, (rd_T44 y474 (Int.tmod (wrap64 (a3)) (l0.length : Int))).f1, mn (wrap64 (((rd_T44 y474 (Int.tmod (wrap64 (a3)) (l0.length : Int))).f2) + (wrap64 (a5)))) 1000000000⟩ : S44)) (y487.set ((Int.tmod (wrap64 (a4)) (l0.length : Int)) : Int).toNat (⟨(rd_T46 y487 (Int.tmod (wrap64 (a4)) (l0.length : Int))).f0, mn (wrap64 (((rd_T46 y480 (Int.tmod (wrap64 (a4)) (l0.length : Int))).f1) + (wrap64 (a5)))) 1000000000⟩ : S46)) a2).bind fun bt494 => (if t469 = true then (if bt489.2.2 = 0 then (if bt494.2.2 = 0 then (if bt489.2.1 = true then (if bt494.2.1 = true then (some (decide ((bt494.1.length : Int) ≤ (bt489.1.length : Int)))) else (some false)) else (some true)) else (some false)) else (some false)) else (some false))))) else (none)) else (none)) else (none)) else (none)))) else (none)))) else (none)) = some r := by first | (rw [hy471]; with_reducible exact H) | (have H2_ := (Option.bind_some _ _).symm.trans H; rw [hy471]; with_reducible exact H2_) | (have H2_ := (Option.bind_some _ _).symm.trans H; with_reducible exact H2_) | with_reducible exact H | (rw [hy471]; exact H) | exact H
    have Ny471 := Aside0.mk hy471
    clear hy471
    by_cases c15 : y471.length + l0.length < 5864062014805
    ·rw [if_pos c15] at H
     have LMc15 := Aside0.mk c15
     clear c15
     obtain ⟨y474, hy474⟩ : ∃ y_ : List (S44), y_ = (y471 ++ l0) := ⟨_, rfl⟩
     replace H : ((some (([] : List (S46)) : List (S46))).bind fun y477 => (if y477.length + l1.length < 8796093022208 then ((some (y477 ++ l1 : List (S46))).bind fun y480 => (if (l0.length : Int) = 0 then (none) else (if 0 ≤ (Int.tmod (wrap64 (a3)) (l0.length : Int)) then (if (Int.tmod (wrap64 (a3)) (l0.length : Int)) < (y474.length : Int) then (if 0 ≤ (Int.tmod (wrap64 (a4)) (l0.length : Int)) then (if (Int.tmod (wrap64 (a4)) (l0.length : Int)) < (y480.length : Int) then ((some (y480.set ((Int.tmod (wrap64 (a4)) (l0.length : Int)) : Int).toNat (⟨mx (wrap64 (((rd_T46 y480 (Int.tmod (wrap64 (a4)) (l0.length : Int))).f0) - (wrap64 (a5)))) 0, (rd_T46 y480 (Int.tmod (wrap64 (a4)) (l0.length : Int))).f1⟩ : S46) : List (S46))).bind fun y487 => ((leak_Explain.f l0 l1 a2).bind fun bt489 => ((leak_Explain.f (y474.set ((Int.tmod (wrap64 (a3)) (l0.length : Int)) : Int).toNat (⟨(rd_T44 y474 (Int.tmod (wrap64 (a3)) (l0.length : Int))).f0, (rd_T44 y474 (Int.tmod (wrap64 (a3)) (l0.length : Int))).f1, mn (wrap64 (((rd_T44 y474 (Int.tmod (wrap64 (a3)) (l0.length : Int))).f2) + (wrap64 (a5)))) 1000000000⟩ : S44)) (y487.set ((Int.tmod (wrap64 (a4)) (l0.length : Int)) : Int).toNat (⟨(rd_T46 y487 (Int.tmod (wrap64 (a4)) (l0.length : Int))).f0, mn (wrap64 (((rd_T46 y480 (Int.tmod (wrap64 (a4)) (l0.length : Int))).f1) + (wrap64 (a5)))) 1000000000⟩ : S46)) a2).bind fun bt494 => (if t469 = true then (if bt489.2.2 = 0 then (if bt494.2.2 = 0 then (if bt489.2.1 = true then (if bt494.2.1 = true then (some (decide ((bt494.1.length : Int) ≤ (bt489.1.length : Int)))) else (some false)) else (some true)) else (some false)) else (some false)) else (some false))))) else (none)) else (none)) else (none)) else (none)))) else (none))) = some r := by first | (rw [hy474]; with_reducible exact H) | (have H2_ := (Option.bind_some _ _).symm.trans H; rw [hy474]; with_reducible exact H2_) | (have H2_ := (Option.bind_some _ _).symm.trans H; with_reducible exact H2_) | with_reducible exact H | (rw [hy474]; exact H) | exact H
     have Ny474 := Aside0.mk hy474
     clear hy474
     obtain ⟨y477, hy477⟩ : ∃ y_ : List (S46), y_ = (([] : List (S46))) := ⟨_, rfl⟩
     replace H : (if y477.length + l1.length < 8796093022208 then ((some (y477 ++ l1 : List (S46))).bind fun y480 => (if (l0.length : Int) = 0 then (none) else (if 0 ≤ (Int.tmod (wrap64 (a3)) (l0.length : Int)) then (if (Int.tmod (wrap64 (a3)) (l0.length : Int)) < (y474.length : Int) then (if 0 ≤ (Int.tmod (wrap64 (a4)) (l0.length : Int)) then (if (Int.tmod (wrap64 (a4)) (l0.length : Int)) < (y480.length : Int) then ((some (y480.set ((Int.tmod (wrap64 (a4)) (l0.length : Int)) : Int).toNat (⟨mx (wrap64 (((rd_T46 y480 (Int.tmod (wrap64 (a4)) (l0.length : Int))).f0) - (wrap64 (a5)))) 0, (rd_T46 y480 (Int.tmod (wrap64 (a4)) (l0.length : Int))).f1⟩ : S46) : List (S46))).bind fun y487 => ((leak_Explain.f l0 l1 a2).bind fun bt489 => ((leak_Explain.f (y474.set ((Int.tmod (wrap64 (a3)) (l0.length : Int)) : Int).toNat (⟨(rd_T44 y474 (Int.tmod (wrap64 (a3)) (l0.length : Int))).f0, (rd_T44 y474 (Int.tmod (wrap64 (a3)) (l0.length : Int))).f1, mn (wrap64 (((rd_T44 y474 (Int.tmod (wrap64 (a3)) (l0.length : Int))).f2) + (wrap64 (a5)))) 1000000000⟩ : S44)) (y487.set ((Int.tmod (wrap64 (a4)) (l0.length : Int)) : Int).toNat (⟨(rd_T46 y487 (Int.tmod (wrap64 (a4)) (l0.length : Int))).f0, mn (wrap64 (((rd_T46 y480 (Int.tmod (wrap64 (a4)) (l0.length : Int))).f1) + (wrap64 (a5)))) 1000000000⟩ : S46)) a2).bind fun bt494 => (if t469 = true then (if bt489.2.2 = 0 then (if bt494.2.2 = 0 then (if bt489.2.1 = true then (if bt494.2.1 = true then (some (decide ((bt494.1.length : Int) ≤ (bt489.1.length : Int)))) else (some false)) else (some true)) else (some false)) else (some false)) else (some false))))) else (none)) else (none)) else (none)) else (none)))) else (none)) = some r := by first | (rw [hy477]; with_reducible exact H) | (have H2_ := (Option.bind_some _ _).symm.trans H; rw [hy477]; with_reducible exact H2_) | (have H2_ := (Option.bind_some _ _).symm.trans H; with_reducible exact H2_) | with_reducible exact H | (rw [hy477]; exact H) | exact H
     have Ny477 := Aside0.mk hy477
     clear hy477
     by_cases c16 : y477.length + l1.length < 8796093022208
     ·rw [if_pos c16] at H
      have LMc16 := Aside0.mk c16
      clear c16
      obtain ⟨y480, hy480⟩ : ∃ y_ : List (S46), y_ = (y477 ++ l1) := ⟨_, rfl⟩
      replace H : (if (l0.length : Int) = 0 then (none) else (if 0 ≤ (Int.tmod (wrap64 (a3)) (l0.length : Int)) then (if (Int.tmod (wrap64 (a3)) (l0.length : Int)) < (y474.length : Int) then (if 0 ≤ (Int.tmod (wrap64 (a4)) (l0.length : Int)) then (if (Int.tmod (wrap64 (a4)) (l0.length : Int)) < (y480.length : Int) then ((some (y480.set ((Int.tmod (wrap64 (a4)) (l0.length : Int)) : Int).toNat (⟨mx (wrap64 (((rd_T46 y480 (Int.tmod (wrap64 (a4)) (l0.length : Int))).f0) - (wrap64 (a5)))) 0, (rd_T46 y480 (Int.tmod (wrap64 (a4)) (l0.length : Int))).f1⟩ : S46) : List (S46))).bind fun y487 => ((leak_Explain.f l0 l1 a2).bind fun bt489 => ((leak_Explain.f (y474.set ((Int.tmod (wrap64 (a3)) (l0.length : Int)) : Int).toNat (⟨(rd_T44 y474 (Int.tmod (wrap64 (a3)) (l0.length : Int))).f0, (rd_T44 y474 (Int.tmod (wrap64 (a3)) (l0.length : Int))).f1, mn (wrap64 (((rd_T44 y474 (Int.tmod (wrap64 (a3)) (l0.length : Int))).f2) + (wrap64 (a5)))) 1000000000⟩ : S44)) (y487.set ((Int.tmod (wrap64 (a4)) (l0.length : Int)) : Int).toNat (⟨(rd_T46 y487 (Int.tmod (wrap64 (a4)) (l0.length : Int))).f0, mn (wrap64 (((rd_T46 y480 (Int.tmod (wrap64 (a4)) (l0.length : Int))).f1) + (wrap64 (a5)))) 1000000000⟩ : S46)) a2).bind fun bt494 => (if t469 = true then (if bt489.2.2 = 0 then (if bt494.2.2 = 0 then (if bt489.2.1 = true then (if bt494.2.1 = true then (some (decide ((bt494.1.length : Int) ≤ (bt489.1.length : Int)))) else (some false)) else (some true)) else (some false)) else (some false)) else (some false))))) else (none)) else (none)) else (none)) else (none))) = some r := by first | (rw [hy480]; with_reducible exact H) | (have H2_ := (Option.bind_some _ _).symm.trans H; rw [hy480]; with_reducible exact H2_) | (have H2_ := (Option.bind_some _ _).symm.trans H; with_reducible exact H2_) | with_reducible exact H | (rw [hy480]; exact H) | exact H
      have Ny480 := Aside0.mk hy480
      clear hy480
      by_cases c17 : (l0.length : Int) = 0
      ·rw [if_pos c17] at H
       exact absurd H (by simp)
      ·rw [if_neg c17] at H
       have c17b0 : ((l0.length : Int) == 0) = false := beq_eq_false_iff_ne.mpr c17
       have c17b1 : ((l0.length : Int) != 0) = true := bne_iff_ne.mpr c17
       have c17b2 : ¬ (l0 = []) := fun h_ => c17 (by rw [h_]; rfl)
       obtain ⟨ji18, hji18⟩ : ∃ j_ : Int, (Int.tmod (wrap64 (a3)) (l0.length : Int)) = j_ := ⟨_, rfl⟩
       replace H : (if 0 ≤ (ji18) then (if (ji18) < (y474.length : Int) then (if 0 ≤ (Int.tmod (wrap64 (a4)) (l0.length : Int)) then (if (Int.tmod (wrap64 (a4)) (l0.length : Int)) < (y480.length : Int) then ((some (y480.set ((Int.tmod (wrap64 (a4)) (l0.length : Int)) : Int).toNat (⟨mx (wrap64 (((rd_T46 y480 (Int.tmod (wrap64 (a4)) (l0.length : Int))).f0) - (wrap64 (a5)))) 0, (rd_T46 y480 (Int.tmod (wrap64 (a4)) (l0.length : Int))).f1⟩ : S46) : List (S46))).bind fun y487 => ((leak_Explain.f l0 l1 a2).bind fun bt489 => ((leak_Explain.f (y474.set ((ji18) : Int).toNat (⟨(rd_T44 y474 (ji18)).f0, (rd_T44 y474 (ji18)).f1, mn (wrap64 (((rd_T44 y474 (ji18)).f2) + (wrap64 (a5)))) 1000000000⟩ : S44)) (y487.set ((Int.tmod (wrap64 (a4)) (l0.length : Int)) : Int).toNat (⟨(rd_T46 y487 (Int.tmod (wrap64 (a4)) (l0.length : Int))).f0, mn (wrap64 (((rd_T46 y480 (Int.tmod (wrap64 (a4)) (l0.length : Int))).f1) + (wrap64 (a5)))) 1000000000⟩ : S46)) a2).bind fun bt494 => (if t469 = true then (if bt489.2.2 = 0 then (if bt494.2.2 = 0 then (if bt489.2.1 = true then (if bt494.2.1 = true then (some (decide ((bt494.1.length : Int) ≤ (bt489.1.length : Int)))) else (some false)) else (some true)) else (some false)) else (some false)) else (some false))))) else (none)) else (none)) else (none)) else (none)) = some r := by first | (rw [hji18] at H; exact H) | (simp only [hji18] at H ⊢; exact H)
       by_cases c19 : 0 ≤ (ji18)
       ·rw [if_pos c19] at H
        have c19b0 : decide (0 ≤ (ji18)) = true := decide_eq_true c19
        clear c19
        by_cases c20 : (ji18) < (y474.length : Int)
        ·rw [if_pos c20] at H
         have c20b0 : decide ((ji18) < (y474.length : Int)) = true := decide_eq_true c20
         clear c20
         obtain ⟨ji21, hji21⟩ : ∃ j_ : Int, (mn (wrap64 (((rd_T44 y474 (ji18)).f2) + (wrap64 (a5)))) 1000000000) = j_ := ⟨_, rfl⟩
         replace H : (if 0 ≤ (Int.tmod (wrap64 (a4)) (l0.length : Int)) then (if (Int.tmod (wrap64 (a4)) (l0.length : Int)) < (y480.length : Int) then ((some (y480.set ((Int.tmod (wrap64 (a4)) (l0.length : Int)) : Int).toNat (⟨mx (wrap64 (((rd_T46 y480 (Int.tmod (wrap64 (a4)) (l0.length : Int))).f0) - (wrap64 (a5)))) 0, (rd_T46 y480 (Int.tmod (wrap64 (a4)) (l0.length : Int))).f1⟩ : S46) : List (S46))).bind fun y487 => ((leak_Explain.f l0 l1 a2).bind fun bt489 => ((leak_Explain.f (y474.set ((ji18) : Int).toNat (⟨(rd_T44 y474 (ji18)).f0, (rd_T44 y474 (ji18)).f1, ji21⟩ : S44)) (y487.set ((Int.tmod (wrap64 (a4)) (l0.length : Int)) : Int).toNat (⟨(rd_T46 y487 (Int.tmod (wrap64 (a4)) (l0.length : Int))).f0, mn (wrap64 (((rd_T46 y480 (Int.tmod (wrap64 (a4)) (l0.length : Int))).f1) + (wrap64 (a5)))) 1000000000⟩ : S46)) a2).bind fun bt494 => (if t469 = true then (if bt489.2.2 = 0 then (if bt494.2.2 = 0 then (if bt489.2.1 = true then (if bt494.2.1 = true then (some (decide ((bt494.1.length : Int) ≤ (bt489.1.length : Int)))) else (some false)) else (some true)) else (some false)) else (some false)) else (some false))))) else (none)) else (none)) = some r := by first | (rw [hji21] at H; exact H) | (simp only [hji21] at H ⊢; exact H)
         have hji21_ : (if 1000000000 < (wrap64 (((rd_T44 y474 (ji18)).f2) + (wrap64 (a5)))) then 1000000000 else (wrap64 (((rd_T44 y474 (ji18)).f2) + (wrap64 (a5))))) = ji21 := hji21
         obtain ⟨y484, hy484⟩ : ∃ y_ : List (S44), y_ = (y474.set ((ji18) : Int).toNat (⟨(rd_T44 y474 (ji18)).f0, (rd_T44 y474 (ji18)).f1, ji21⟩ : S44)) := ⟨_, rfl⟩
         replace H : (if 0 ≤ (Int.tmod (wrap64 (a4)) (l0.length : Int)) then (if (Int.tmod (wrap64 (a4)) (l0.length : Int)) < (y480.length : Int) then ((some (y480.set ((Int.tmod (wrap64 (a4)) (l0.length : Int)) : Int).toNat (⟨mx (wrap64 (((rd_T46 y480 (Int.tmod (wrap64 (a4)) (l0.length : Int))).f0) - (wrap64 (a5)))) 0, (rd_T46 y480 (Int.tmod (wrap64 (a4)) (l0.length : Int))).f1⟩ : S46) : List (S46))).bind fun y487 => ((leak_Explain.f l0 l1 a2).bind fun bt489 => ((leak_Explain.f y484 (y487.set ((Int.tmod (wrap64 (a4)) (l0.length : Int)) : Int).toNat (⟨(rd_T46 y487 (Int.tmod (wrap64 (a4)) (l0.length : Int))).f0, mn (wrap64 (((rd_T46 y480 (Int.tmod (wrap64 (a4)) (l0.length : Int))).f1) + (wrap64 (a5)))) 1000000000⟩ : S46)) a2).bind fun bt494 => (if t469 = true then (if bt489.2.2 = 0 then (if bt494.2.2 = 0 then (if bt489.2.1 = true then (if bt494.2.1 = true then (some (decide ((bt494.1.length : Int) ≤ (bt489.1.length : Int)))) else (some false)) else (some true)) else (some false)) else (some false)) else (some false))))) else (none)) else (none)) = some r := by first | (rw [hy484]; with_reducible exact H) | (have H2_ := (Option.bind_some _ _).symm.trans H; rw [hy484]; with_reducible exact H2_) | (have H2_ := (Option.bind_some _ _).symm.trans H; with_reducible exact H2_) | with_reducible exact H | (rw [hy484]; exact H) | exact H
         have Ny484 := Aside0.mk hy484
         clear hy484
         obtain ⟨ji23, hji23⟩ : ∃ j_ : Int, (Int.tmod (wrap64 (a4)) (l0.length : Int)) = j_ := ⟨_, rfl⟩
         replace H : (if 0 ≤ (ji23) then (if (ji23) < (y480.length : Int) then ((some (y480.set ((ji23) : Int).toNat (⟨mx (wrap64 (((rd_T46 y480 (ji23)).f0) - (wrap64 (a5)))) 0, (rd_T46 y480 (ji23)).f1⟩ : S46) : List (S46))).bind fun y487 => ((leak_Explain.f l0 l1 a2).bind fun bt489 => ((leak_Explain.f y484 (y487.set ((ji23) : Int).toNat (⟨(rd_T46 y487 (ji23)).f0, mn (wrap64 (((rd_T46 y480 (ji23)).f1) + (wrap64 (a5)))) 1000000000⟩ : S46)) a2).bind fun bt494 => (if t469 = true then (if bt489.2.2 = 0 then (if bt494.2.2 = 0 then (if bt489.2.1 = true then (if bt494.2.1 = true then (some (decide ((bt494.1.length : Int) ≤ (bt489.1.length : Int)))) else (some false)) else (some true)) else (some false)) else (some false)) else (some false))))) else (none)) else (none)) = some r := by first | (rw [hji23] at H; exact H) | (simp only [hji23] at H ⊢; exact H)
         by_cases c24 : 0 ≤ (ji23)
         ·rw [if_pos c24] at H
          have c24b0 : decide (0 ≤ (ji23)) = true := decide_eq_true c24
          clear c24
          by_cases c25 : (ji23) < (y480.length : Int)
          ·rw [if_pos c25] at H
           have c25b0 : decide ((ji23) < (y480.length : Int)) = true := decide_eq_true c25
           clear c25
           obtain ⟨ji26, hji26⟩ : ∃ j_ : Int, (mx (wrap64 (((rd_T46 y480 (ji23)).f0) - (wrap64 (a5)))) 0) = j_ := ⟨_, rfl⟩
           replace H : ((some (y480.set ((ji23) : Int).toNat (⟨ji26, (rd_T46 y480 (ji23)).f1⟩ : S46) : List (S46))).bind fun y487 => ((leak_Explain.f l0 l1 a2).bind fun bt489 => ((leak_Explain.f y484 (y487.set ((ji23) : Int).toNat (⟨(rd_T46 y487 (ji23)).f0, mn (wrap64 (((rd_T46 y480 (ji23)).f1) + (wrap64 (a5)))) 1000000000⟩ : S46)) a2).bind fun bt494 => (if t469 = true then (if bt489.2.2 = 0 then (if bt494.2.2 = 0 then (if bt489.2.1 = true then (if bt494.2.1 = true then (some (decide ((bt494.1.length : Int) ≤ (bt489.1.length : Int)))) else (some false)) else (some true)) else (some false)) else (some false)) else (some false))))) = some r := by first | (rw [hji26] at H; exact H) | (simp only [hji26] at H ⊢; exact H)
           have hji26_ : (if (wrap64 (((rd_T46 y480 (ji23)).f0) - (wrap64 (a5)))) < 0 then 0 else (wrap64 (((rd_T46 y480 (ji23)).f0) - (wrap64 (a5))))) = ji26 := hji26
           obtain ⟨ji27, hji27⟩ : ∃ j_ : Int, (mn (wrap64 (((rd_T46 y480 (ji23)).f1) + (wrap64 (a5)))) 1000000000) = j_ := ⟨_, rfl⟩
           replace H : ((some (y480.set ((ji23) : Int).toNat (⟨ji26, (rd_T46 y480 (ji23)).f1⟩ : S46) : List (S46))).bind fun y487 => ((leak_Explain.f l0 l1 a2).bind fun bt489 => ((leak_Explain.f y484 (y487.set ((ji23) : Int).toNat (⟨(rd_T46 y487 (ji23)).f0, ji27⟩ : S46)) a2).bind fun bt494 => (if t469 = true then (if bt489.2.2 = 0 then (if bt494.2.2 = 0 then (if bt489.2.1 = true then (if bt494.2.1 = true then (some (decide ((bt494.1.length : Int) ≤ (bt489.1.length : Int)))) else (some false)) else (some true)) else (some false)) else (some false)) else (some false))))) = some r := by first | (rw [hji27] at H; exact H) | (simp only [hji27] at H ⊢; exact H)
           have hji27_ : (if 1000000000 < (wrap64 (((rd_T46 y480 (ji23)).f1) + (wrap64 (a5)))) then 1000000000 else (wrap64 (((rd_T46 y480 (ji23)).f1) + (wrap64 (a5))))) = ji27 := hji27
           obtain ⟨y487, hy487⟩ : ∃ y_ : List (S46), y_ = (y480.set ((ji23) : Int).toNat (⟨ji26, (rd_T46 y480 (ji23)).f1⟩ : S46)) := ⟨_, rfl⟩
           replace H : ((leak_Explain.f l0 l1 a2).bind fun bt489 => ((leak_Explain.f y484 (y487.set ((ji23) : Int).toNat (⟨(rd_T46 y487 (ji23)).f0, ji27⟩ : S46)) a2).bind fun bt494 => (if t469 = true then (if bt489.2.2 = 0 then (if bt494.2.2 = 0 then (if bt489.2.1 = true then (if bt494.2.1 = true then (some (decide ((bt494.1.length : Int) ≤ (bt489.1.length : Int)))) else (some false)) else (some true)) else (some false)) else (some false)) else (some false)))) = some r := by first | (rw [hy487]; with_reducible exact H) | (have H2_ := (Option.bind_some _ _).symm.trans H; rw [hy487]; with_reducible exact H2_) | (have H2_ := (Option.bind_some _ _).symm.trans H; with_reducible exact H2_) | with_reducible exact H | (rw [hy487]; exact H) | exact H
           have Ny487 := Aside0.mk hy487
           clear hy487
           obtain ⟨y488, hy488⟩ : ∃ y_ : List (S46), y_ = (y487.set ((ji23) : Int).toNat (⟨(rd_T46 y487 (ji23)).f0, ji27⟩ : S46)) := ⟨_, rfl⟩
           replace H : ((leak_Explain.f l0 l1 a2).bind fun bt489 => ((leak_Explain.f y484 y488 a2).bind fun bt494 => (if t469 = true then (if bt489.2.2 = 0 then (if bt494.2.2 = 0 then (if bt489.2.1 = true then (if bt494.2.1 = true then (some (decide ((bt494.1.length : Int) ≤ (bt489.1.length : Int)))) else (some false)) else (some true)) else (some false)) else (some false)) else (some false)))) = some r := by first | (rw [hy488]; with_reducible exact H) | (have H2_ := (Option.bind_some _ _).symm.trans H; rw [hy488]; with_reducible exact H2_) | (have H2_ := (Option.bind_some _ _).symm.trans H; with_reducible exact H2_) | with_reducible exact H | (rw [hy488]; exact H) | exact H
           have Ny488 := Aside0.mk hy488
           clear hy488
           replace H := Option.bind_eq_some_iff.mp H
           obtain ⟨⟨t489, t490, t491⟩, A300, H⟩ := H
           replace H : ((leak_Explain.f y484 y488 a2).bind fun bt494 => (if t469 = true then (if t491 = 0 then (if bt494.2.2 = 0 then (if t490 = true then (if bt494.2.1 = true then (some (decide ((bt494.1.length : Int) ≤ (t489.length : Int)))) else (some false)) else (some true)) else (some false)) else (some false)) else (some false))) = some r := H
           have A30 := Aside0.mk A300
           clear A300
           replace H := Option.bind_eq_some_iff.mp H
           obtain ⟨⟨t494, t495, t496⟩, A310, H⟩ := H
           replace H : (if t469 = true then (if t491 = 0 then (if t496 = 0 then (if t490 = true then (if t495 = true then (some (decide ((t494.length : Int) ≤ (t489.length : Int)))) else (some false)) else (some true)) else (some false)) else (some false)) else (some false)) = some r := H
           have A31 := Aside0.mk A310
           clear A310
           by_cases c32 : t469 = true
           ·subst c32
            have H1 : (if t491 = 0 then (if t496 = 0 then (if t490 = true then (if t495 = true then (some (decide ((t494.length : Int) ≤ (t489.length : Int)))) else (some false)) else (some true)) else (some false)) else (some false)) = some r := by rw [if_pos rfl] at H; exact H
            clear H
            have H := H1
            clear H1
            by_cases c33 : t491 = 0
            ·rw [if_pos c33] at H
             have c33b0 : (t491 == 0) = true := beq_iff_eq.mpr c33
             have c33b1 : (t491 != 0) = false := bne_eq_false_iff_eq.mpr c33
             clear c33
             by_cases c34 : t496 = 0
             ·rw [if_pos c34] at H
              have c34b0 : (t496 == 0) = true := beq_iff_eq.mpr c34
              have c34b1 : (t496 != 0) = false := bne_eq_false_iff_eq.mpr c34
              clear c34
              by_cases c35 : t490 = true
              ·subst c35
               have H1 : (if t495 = true then (some (decide ((t494.length : Int) ≤ (t489.length : Int)))) else (some false)) = some r := by rw [if_pos rfl] at H; exact H
               clear H
               have H := H1
               clear H1
               by_cases c36 : t495 = true
               ·subst c36
                have H1 : (some (decide ((t494.length : Int) ≤ (t489.length : Int)))) = some r := by rw [if_pos rfl] at H; exact H
                clear H
                have H := H1
                clear H1
                obtain rfl := Option.some.inj H
                try go_wp2_with (first | ((with_reducible refine gate_dst (N := 36) rfl ?_); (try (refine gate_guard (by rfl) ?_; dsimp only)); refine Kd.R_lit k44 _ 44 ?hg (N := 36) ?hd (xs := ([] : List (S44))) (inner := []) (ok := fun _ => True) (okp := fun _ => True) ?hr ?hp (fun _ hk => hk) trivial (Below.refl _ _) (Nat.le_refl _) (by simp) ?_; (case hd => rfl); (case hg => rfl); (case hr => first | (go_simp; done) | (go_simp; rfl)); (case hp => exact (Reps.none _ _)); intro v472 w37 ho38 hb hg_ hnew_; clear hg_ hnew_; (first | rw [← Ny471.out] at ho38 | (simp only [Int.reduceToNat] at ho38; rw [← Ny471.out] at ho38)); have n0_ := Aside0.mk (Kd.R_lower ho38 (below_size (bb_ HB))); have n1_ := Aside0.mk (below_step (bb_ HB) hb); clear HB; have HO473 := n0_; have HB := n1_; clear n0_ n1_; clear hb ho38) | ((with_reducible refine gate_builtin (b := .append) (xs := #[.tmp 36, .tmp 37]) rfl ?_); (try (refine gate_guard (by rfl) ?_; dsimp only)); at_builtin; refine Kd.R_append_rows k44 (w0 := w) w.heap.size rfl (.tmp 36) (.tmp 37) 22 44 (.agg #[(.int .i64 0), (.int .i64 0), (.int .i64 0)]) 24 rfl Try.underlying22 info44 rfl (by decide) (by omega) v472 y471 l0 _ _ _ (fun _ => True) (fun _ => False) rfl rfl ?aO ?aR (fun _ _ h => h) (fun _ h => h.elim) ?aF ?aB ?aS ?aL ?_; (case aR => exact cc_ ((Kd.C_below HR0.out HB.out))); (case aB => exact (bb_ HB)); (case aF => exact (fun _ _ => trivial)); (case aO => exact (rr_ HO473)); (case aS => exact (below_size (bb_ HB))); (case aL => have := LMc15.out; omega); intro v475 w39 ho hb hg hat; rw [← Ny474.out] at ho; have n0_ := Aside0.mk (hb); have n1_ := Aside0.mk (ho); clear HB; clear HO473; have HB := n0_; have HO476 := n1_; clear n0_ n1_; clear ho hb hg hat) | ((with_reducible refine gate_dst (N := 39) rfl ?_); (try (refine gate_guard (by rfl) ?_; dsimp only)); refine Kd.R_lit k46 _ 46 ?hg (N := 39) ?hd (xs := ([] : List (S46))) (inner := []) (ok := fun _ => True) (okp := fun _ => True) ?hr ?hp (fun _ hk => hk) trivial (Below.refl _ _) (Nat.le_refl _) (by simp) ?_; (case hd => rfl); (case hg => rfl); (case hr => first | (go_simp; done) | (go_simp; rfl)); (case hp => exact (Reps.none _ _)); intro v478 w40 ho41 hb hg_ hnew_; clear hg_ hnew_; (first | rw [← Ny477.out] at ho41 | (simp only [Int.reduceToNat] at ho41; rw [← Ny477.out] at ho41)); have n0_ := Aside0.mk (Kd.R_below (rr_ HO476) hb); have n1_ := Aside0.mk (Kd.R_lower ho41 (below_size (bb_ HB))); have n2_ := Aside0.mk (below_step (bb_ HB) hb); clear HO476; clear HB; have HO476 := n0_; have HO479 := n1_; have HB := n2_; clear n0_ n1_ n2_; clear hb ho41) | ((with_reducible refine gate_builtin (b := .append) (xs := #[.tmp 39, .tmp 40]) rfl ?_); (try (refine gate_guard (by rfl) ?_; dsimp only)); at_builtin; refine Kd.R_append_rows k46 (w0 := w) w.heap.size rfl (.tmp 39) (.tmp 40) 23 46 (.agg #[(.int .i64 0), (.int .i64 0)]) 16 rfl Try.underlying23 info46 rfl (by decide) (by omega) v478 y477 l1 _ _ _ (fun _ => True) (fun _ => False) rfl rfl ?aO ?aR (fun _ _ h => h) (fun _ h => h.elim) ?aF ?aB ?aS ?aL ?_; (case aR => exact cc_ ((Kd.C_below HR1.out HB.out))); (case aB => exact (bb_ HB)); (case aF => exact (fun _ _ => trivial)); (case aO => exact (rr_ HO479)); (case aS => exact (below_size (bb_ HB))); (case aL => have := LMc16.out; omega); intro v481 w42 ho hb hg hat; rw [← Ny480.out] at ho; have n0_ := Aside0.mk (Kd.R_over' (rr_ HO476) (Kd.R_typed (rr_ HO479)) (by decide) hg); have n1_ := Aside0.mk (hb); have n2_ := Aside0.mk (ho); clear HO476; clear HB; clear HO479; have HO476 := n0_; have HB := n1_; have HO482 := n2_; clear n0_ n1_ n2_; clear ho hb hg hat))
                have n0_ := Aside0.mk (Kd.R_drew HO476.out)
                have n1_ := Aside0.mk (Kd.R_drew HO482.out)
                have n2_ := Aside0.mk (below_drew1 HB.out)
                clear HO476
                clear HO482
                clear HB
                have HO476 := n0_
                have HO482 := n1_
                have HB := n2_
                clear n0_ n1_ n2_
                refine start_ (n := 12) (S := fun w' => True) (ds := []) #[n_, n_, n_, n_, n_, n_, n_, n_, n_, n_, n_, n_] (by kernel_rfl) rfl rfl trivial (fun hHeld => ?_); refine with_tabW cohousinglaw30_LeakPlay.tab6 cohousinglaw30_LeakPlay.bits6 (fun HT_ HW_ => ?_)
                generalize w42.drew = w43 at HO476 HO482 HB hHeld ⊢
                refine pu_ 0 42 (w_ 12 1) rfl HT_ ?_
                refine pu_ 1 43 (w_ 12 3) rfl HT_ ?_
                refine pu_ 2 44 (w_ 12 7) rfl HT_ ?_
                refine pu_ 3 45 (w_ 12 15) rfl HT_ ?_
                refine pu_ 4 46 (w_ 12 31) rfl HT_ ?_
                refine pu_ 5 47 (w_ 12 63) rfl HT_ ?_
                refine pu_ 6 48 (w_ 12 127) rfl HT_ ?_
                refine pu_ 7 49 (w_ 12 255) rfl HT_ ?_
                refine pu_ 8 50 (w_ 12 511) rfl HT_ ?_
                refine pu_ 9 51 (w_ 12 1023) rfl HT_ ?_
                refine pu_ 10 16 (w_ 12 2047) rfl HT_ ?_
                refine pu_ 11 17 (w_ 12 4095) rfl HT_ ?_
                refine done_ (done_of HT_.out (by kernel_rfl)) ?_
                obtain ⟨Ao44, co44, eo44⟩ := Kd.R_slice HO476.out
                subst eo44
                have p483 : 0 ≤ ((ji18) : Int) := od_
                have q483 : (ji18) < (y474.length : Int) := od_
                obtain ⟨ad483, e483, hx483_0, hx483_1, hx483_2⟩ := at_T44 (Kd.R_reads' HO476.out).2.2 (ji18) p483 q483
                cases e483
                replace p483 := eq_true p483
                replace q483 := eq_true q483
                have p22 : 0 ≤ ((ji18) : Int) := od_
                have q22 : ((ji18) : Int) < ((y474.length : Int) : Int) := od_
                obtain ⟨go22, co22, eo22, gb22, gl22, cl22, HG22⟩ := Kd.R_form HO476.out (by omega)
                (first | cases eo22 | (injection eo22 with ea_ en_ ec_; (first | subst ea_ | (injection ea_ with ea_; subst ea_)); subst ec_; clear en_))
                have GB22 := Aside0.mk gb22
                have GG22 := Aside0.mk HG22
                clear gb22 gl22 HG22
                (first | simp only [add_plain] at hx483_0 | skip)
                (first | simp only [add_plain] at hx483_1 | skip)
                (first | simp only [add_plain] at hx483_2 | skip)
                obtain ⟨ce22, hcl22, hM22, hcc22, hfr22⟩ := Kd.R_elem HO476.out z44 ((ji18) : Int) p22 q22
                obtain rfl := k44_openM hM22
                have hx22_0 : w43.cell? ⟨go22, ((ji18) : Int).toNat * 3, none⟩ = some (.int .i64 ((rd_T44 y474 (ji18)).f0)) := hcc22 0 _ rfl
                have hx22_1 : w43.cell? ⟨go22, ((ji18) : Int).toNat * 3 + 1, none⟩ = some (.int .i64 ((rd_T44 y474 (ji18)).f1)) := hcc22 1 _ rfl
                have hx22_2 : w43.cell? ⟨go22, ((ji18) : Int).toNat * 3 + 2, none⟩ = some (.int .i64 ((rd_T44 y474 (ji18)).f2)) := hcc22 2 _ rfl
                have hf22_0 : w43.frozen? ⟨go22, ((ji18) : Int).toNat * 3, none⟩ = false := hfr22 0
                have hf22_1 : w43.frozen? ⟨go22, ((ji18) : Int).toNat * 3 + 1, none⟩ = false := hfr22 1
                have hf22_2 : w43.frozen? ⟨go22, ((ji18) : Int).toNat * 3 + 2, none⟩ = false := hfr22 2
                clear hcl22 hcc22 hfr22 hM22
                replace p22 := eq_true p22
                replace q22 := eq_true q22
                have HX45 := Aside0.mk (show Kd.R k44 44 w43 w.heap.size (fun _ => True) (.slice (some ⟨go22, 0, none⟩) y474.length co44) y474 from (rr_ HO476))
                obtain ⟨ce45, hcl45, hM45, hcc45, hfr45⟩ := Kd.R_elem HX45.out z44 ((ji18) : Int) (od_) (by have h_ : ((ji18) : Int) < ((y474.length : Int) : Int) := od_; first | exact h_ | (have e_ := (Kd.R_reads' HO476.out).1; omega) | simpa using h_)
                obtain rfl := k44_openM hM45
                have HP45 := Kd.R_seg HX45.out ((ji18) : Int) (od_) (by have h_ : ((ji18) : Int) < ((y474.length : Int) : Int) := od_; first | exact h_ | (have e_ := (Kd.R_reads' HO476.out).1; omega) | simpa using h_) (seg := [.int .i64 ji21]) (j := 2) hcl45 hcc45 (show 3 ≤ 3 from by decide) (x' := (⟨(rd_T44 y474 (ji18)).f0, (rd_T44 y474 (ji18)).f1, ji21⟩ : S44)) (k44_mkM _ _ _ (⟨(rd_T44 y474 (ji18)).f0, (rd_T44 y474 (ji18)).f1, ji21⟩ : S44) ) (fun _ hk => hk)
                have hx45_2 := hcc45 2 _ rfl
                (try simp only [show (k44).sz = 3 from rfl, Nat.mul_one, Nat.add_zero] at hx45_2)
                have hf45_2 := hfr45 2
                (try simp only [show (k44).sz = 3 from rfl, Nat.mul_one, Nat.add_zero] at hf45_2)
                clear hcl45 hcc45 hfr45 hM45
                try go_wp2_with (first | ((with_reducible refine gate_store (t := 3) (p := 64) rfl ?_); refine store_event (t := 3) (p := 64) (v := ?vo_w46) (w1 := (w43.setCell ⟨go22, ((ji18) : Int).toNat * 3 + 2, none⟩ (.int .i64 ji21))) ?hg ?ho ?hn ?hr ?_; (case ho => rfl); (case hg => rfl); (case hn => rfl); (case hr => first | (go_simp; done) | (go_simp; rfl)); intro w46 hw; have hg : w43.grownBy w46 (some go22) := (by rw [hw]; exact HP45.2); have hp_ : Kd.R k44 44 w46 w.heap.size (fun _ => True) (.slice (some ⟨go22, 0, none⟩) y474.length co44) y484 := (by rw [hw, Ny484.out]; exact HP45.1); clear HP45; have n0_ := Aside0.mk (hp_); have n1_ := Aside0.mk (Kd.R_over' (v := (.slice (some ⟨go22, 0, none⟩) y474.length co44)) (rr_ HO482) (Kd.R_typed HO476.out) (by decide) hg); have n2_ := Aside0.mk ((by rw [hw]; exact below_set (HB.out) GB22.out : Below w.heap.size w w46)); clear HO476; clear HO482; clear HB; have HO476 := n0_; have HO482 := n1_; have HB := n2_; clear n0_ n1_ n2_; clear hg hw hp_))
                have n0_ := Aside0.mk (Kd.R_drew HO476.out)
                have n1_ := Aside0.mk (Kd.R_drew HO482.out)
                have n2_ := Aside0.mk (below_drew1 HB.out)
                clear HO476
                clear HO482
                clear HB
                have HO476 := n0_
                have HO482 := n1_
                have HB := n2_
                clear n0_ n1_ n2_
                obtain ⟨Ao48, co48, eo48⟩ := Kd.R_slice HO482.out
                (first | subst eo48 | (injection eo48 with f1_ f2_ f3_; have f4_ := f1_.symm; have f5_ := f3_.symm; clear f1_ f2_ f3_; subst f4_; subst f5_))
                have p485 : 0 ≤ ((ji23) : Int) := od_
                have q485 : (ji23) < (y480.length : Int) := od_
                obtain ⟨ad485, e485, hx485_0, hx485_1⟩ := at_T46 (Kd.R_reads' HO482.out).2.2 (ji23) p485 q485
                cases e485
                replace p485 := eq_true p485
                replace q485 := eq_true q485
                have p486 : 0 ≤ ((ji23) : Int) := od_
                have q486 : (ji23) < (y480.length : Int) := od_
                obtain ⟨ad486, e486, hx486_0, hx486_1⟩ := at_T46 (Kd.R_reads' HO482.out).2.2 (ji23) p486 q486
                obtain rfl : ad485 = ad486 := (by injection e486)
                replace p486 := eq_true p486
                replace q486 := eq_true q486
                have p28 : 0 ≤ ((ji23) : Int) := od_
                have q28 : ((ji23) : Int) < ((y480.length : Int) : Int) := od_
                obtain ⟨go28, co28, eo28, gb28, gl28, cl28, HG28⟩ := Kd.R_form HO482.out (by omega)
                (first | cases eo28 | (injection eo28 with ea_ en_ ec_; (first | subst ea_ | (injection ea_ with ea_; subst ea_)); subst ec_; clear en_))
                have GB28 := Aside0.mk gb28
                have GG28 := Aside0.mk HG28
                clear gb28 gl28 HG28
                (first | simp only [add_plain] at hx485_0 | skip)
                (first | simp only [add_plain] at hx485_1 | skip)
                (first | simp only [add_plain] at hx486_0 | skip)
                (first | simp only [add_plain] at hx486_1 | skip)
                obtain ⟨ce28, hcl28, hM28, hcc28, hfr28⟩ := Kd.R_elem HO482.out z46 ((ji23) : Int) p28 q28
                obtain rfl := k46_openM hM28
                have hx28_0 : World.cell? _ ⟨go28, ((ji23) : Int).toNat * 2, none⟩ = some (.int .i64 ((rd_T46 y480 (ji23)).f0)) := hcc28 0 _ rfl
                have hx28_1 : World.cell? _ ⟨go28, ((ji23) : Int).toNat * 2 + 1, none⟩ = some (.int .i64 ((rd_T46 y480 (ji23)).f1)) := hcc28 1 _ rfl
                have hf28_0 : World.frozen? _ ⟨go28, ((ji23) : Int).toNat * 2, none⟩ = false := hfr28 0
                have hf28_1 : World.frozen? _ ⟨go28, ((ji23) : Int).toNat * 2 + 1, none⟩ = false := hfr28 1
                clear hcl28 hcc28 hfr28 hM28
                replace p28 := eq_true p28
                replace q28 := eq_true q28
                obtain ⟨ce49, hcl49, hM49, hcc49, hfr49⟩ := Kd.R_elem HO482.out z46 ((ji23) : Int) (od_) (by have h_ : ((ji23) : Int) < ((y480.length : Int) : Int) := od_; first | exact h_ | (have e_ := (Kd.R_reads' HO482.out).1; omega) | simpa using h_)
                obtain rfl := k46_openM hM49
                have HP49 := (Kd.R_seg HO482.out ((ji23) : Int) (od_) (by have h_ : ((ji23) : Int) < ((y480.length : Int) : Int) := od_; first | exact h_ | (have e_ := (Kd.R_reads' HO482.out).1; omega) | simpa using h_) (seg := [.int .i64 ji26]) (j := 0) hcl49 hcc49 (show 1 ≤ 2 from by decide) (x' := (⟨ji26, (rd_T46 y480 (ji23)).f1⟩ : S46)) (k46_mkM _ _ _ (⟨ji26, (rd_T46 y480 (ji23)).f1⟩ : S46) ) (fun _ hk => hk)).1
                rw [← Ny487.out] at HP49
                have HQ49 := Aside0.mk HP49
                clear hcl49 hcc49 hfr49 hM49 HP49
                have p29 : 0 ≤ ((ji23) : Int) := od_
                have q29 : ((ji23) : Int) < ((y480.length : Int) : Int) := od_
                replace p29 := eq_true p29
                replace q29 := eq_true q29
                obtain ⟨ce50, hcl50, hM50, hcc50, hfr50⟩ := Kd.R_elem HQ49.out z46 ((ji23) : Int) (od_) (by have h_ : ((ji23) : Int) < ((y480.length : Int) : Int) := od_; first | exact h_ | (have e_ := (Kd.R_reads' HO482.out).1; omega) | simpa using h_)
                obtain rfl := k46_openM hM50
                have HP50 := (Kd.R_seg HQ49.out ((ji23) : Int) (od_) (by have h_ : ((ji23) : Int) < ((y480.length : Int) : Int) := od_; first | exact h_ | (have e_ := (Kd.R_reads' HO482.out).1; omega) | simpa using h_) (seg := [.int .i64 ji27]) (j := 1) hcl50 hcc50 (show 2 ≤ 2 from by decide) (x' := (⟨(rd_T46 y487 (ji23)).f0, ji27⟩ : S46)) (k46_mkM _ _ _ (⟨(rd_T46 y487 (ji23)).f0, ji27⟩ : S46) ) (fun _ hk => hk)).1
                rw [← Ny488.out] at HP50
                have HQ50 := Aside0.mk HP50
                clear hcl50 hcc50 hfr50 hM50 HP50
                refine start_ (n := 28) (S := fun w' => w'.cell? ⟨go28, ((ji23)).toNat * 2, none⟩ = some (.int .i64 ((rd_T46 y480 (ji23)).f0)) ∧ w'.cell? ⟨go28, ((ji23)).toNat * 2 + 1, none⟩ = some (.int .i64 ((rd_T46 y480 (ji23)).f1)) ∧ w'.cell? ⟨go28, ((ji23)).toNat * 2, none⟩ = some (.int .i64 ((rd_T46 y480 (ji23)).f0)) ∧ w'.cell? ⟨go28, ((ji23)).toNat * 2 + 1, none⟩ = some (.int .i64 ((rd_T46 y480 (ji23)).f1))) (ds := [24, 27]) #[n_, n_, n_, n_, n_, n_, n_, n_, n_, n_, n_, n_, n_, n_, n_, n_, n_, n_, n_, n_, n_, n_, n_, n_, n_, n_, n_, n_] (by kernel_rfl) rfl rfl ⟨hx485_0, hx485_1, hx486_0, hx486_1⟩ (fun hHeld => ?_); refine with_tabW cohousinglaw30_LeakPlay.tab8 cohousinglaw30_LeakPlay.bits8 (fun HT_ HW_ => ?_)
                generalize w46.drew = w47 at HO476 HO482 HB GG28 HQ49 HQ50 hf28_0 hf28_1 hx28_0 hx28_1 hx485_0 hx485_1 hx486_0 hx486_1 hHeld ⊢
                refine pu_ 0 65 (w_ 28 1) rfl HT_ ?_
                refine pu_ 1 66 (w_ 28 3) rfl HT_ ?_
                refine pu_ 2 67 (w_ 28 7) rfl HT_ ?_
                refine pu_ 3 68 (w_ 28 15) rfl HT_ ?_
                refine pu_ 4 69 (w_ 28 31) rfl HT_ ?_
                refine pu_ 5 70 (w_ 28 63) rfl HT_ ?_
                refine pu_ 6 71 (w_ 28 127) rfl HT_ ?_
                refine pu_ 7 72 (w_ 28 255) rfl HT_ ?_
                refine pu_ 9 74 (w_ 28 767) rfl HT_ ?_
                refine pu_ 10 75 (w_ 28 1791) rfl HT_ ?_
                refine pu_ 13 78 (w_ 28 9983) rfl HT_ ?_
                refine pu_ 14 79 (w_ 28 26367) rfl HT_ ?_
                refine pu_ 15 80 (w_ 28 59135) rfl HT_ ?_
                refine pu_ 16 81 (w_ 28 124671) rfl HT_ ?_
                refine pu_ 18 83 (w_ 28 386815) rfl HT_ ?_
                refine pu_ 19 84 (w_ 28 911103) rfl HT_ ?_
                refine ta_ 8 73 (w_ 28 911359) rfl HT_ HW_ hHeld (by rintro w' ⟨s0, s1, s2, s3⟩; go_simp; with_reducible rfl) ?_
                refine pu_ 11 76 (w_ 28 913407) rfl HT_ ?_
                refine pu_ 12 77 (w_ 28 917503) rfl HT_ ?_
                refine ta_ 17 82 (w_ 28 1048575) rfl HT_ HW_ hHeld (by rintro w' ⟨s0, s1, s2, s3⟩; go_simp; with_reducible rfl) ?_
                refine pu_ 20 85 (w_ 28 2097151) rfl HT_ ?_
                refine pu_ 21 86 (w_ 28 4194303) rfl HT_ ?_
                refine pu_ 22 87 (w_ 28 8388607) rfl HT_ ?_
                refine pu_ 23 88 (w_ 28 16777215) rfl HT_ ?_
                refine last_ (i := 24) (N := none) (w_ 28 33554431) rfl rfl (one_of HT_.out (by kernel_rfl)) (by decide) (fun K hK => ?_)
                refine skip_ (w1 := ?_) (by rfl) rfl ?_ ?_
                rotate_left
                ·go_simp
                 rfl
                refine hK.out _ _ ?_
                clear hK K
                refine pu_ 25 89 (w_ 28 67108863) rfl HT_ ?_
                refine pu_ 26 90 (w_ 28 134217727) rfl HT_ ?_
                refine last_ (i := 27) (N := none) (w_ 28 268435455) rfl rfl (one_of HT_.out (by kernel_rfl)) (by decide) (fun K hK => ?_)
                refine skip_ (w1 := ?_) (by rfl) rfl ?_ ?_
                rotate_left
                ·go_simp
                 rfl
                refine hK.out _ _ ?_
                clear hK K
                refine done_ (done_of HT_.out (by kernel_rfl)) ?_
                try go_wp2_with (first | ((with_reducible refine gate_callee (f := 13) rfl ?_); refine gl_ (some 95) Try.func13 #[.slice A0 l0.length c0, .slice A1 l1.length c1, .int .i64 a2] ?_; (with_reducible refine (leak_Explain.calls _ _ l0 _ _ l1 a2 t489 true t491 _ ?side1 ?side2 ?side3 ?side4 A30.out).mono ?_); (case side1 => exact Kd.C_below HR0.out (by repeat (first | (with_reducible first | exact HB.out | apply below_alloc | apply pw_below_drewN | apply below_drew1 | refine below_set ?_ GB28.out | refine below_set ?_ GB28.out) | exact HB.out))); (case side2 => exact HC0.out); (case side3 => exact Kd.C_below HR1.out (by repeat (first | (with_reducible first | exact HB.out | apply below_alloc | apply pw_below_drewN | apply below_drew1 | refine below_set ?_ GB28.out | refine below_set ?_ GB28.out) | exact HB.out))); (case side4 => exact HC1.out); rintro e w51 ⟨v492, rfl, ho0, hb⟩; refine ⟨_, rfl, ?_⟩; have n0_ := Aside0.mk (Kd.R_below (by (with_reducible repeat (first | apply Kd.R_alloc | apply Kd.R_drewN | apply Kd.R_drew)); exact (Kd.R_mono (Kd.R_far (p := ⟨go28, ((ji23) : Int).toNat * 2 + 1, none⟩) (Kd.R_far (p := ⟨go28, ((ji23) : Int).toNat * 2, none⟩) (Kd.R_types HO476.out GG28.out (by decide)) (fun _ hk => hk.2) (.int .i64 ji26)) (fun _ hk => hk.2) (.int .i64 ji27)) (fun _ h_ => h_.1))) hb); have n1_ := Aside0.mk (Kd.R_below (rr_ HQ50) hb); have n2_ := Aside0.mk (Kd.R_lower ho0 (below_size (by repeat (first | (with_reducible first | exact HB.out | apply below_alloc | apply pw_below_drewN | apply below_drew1 | refine below_set ?_ GB28.out | refine below_set ?_ GB28.out) | exact HB.out)))); have n3_ := Aside0.mk (below_step (by repeat (first | (with_reducible first | exact HB.out | apply below_alloc | apply pw_below_drewN | apply below_drew1 | refine below_set ?_ GB28.out | refine below_set ?_ GB28.out) | exact HB.out)) hb); clear HO476; clear HO482; clear HB; have HO476 := n0_; have HO482 := n1_; have HO493 := n2_; have HB := n3_; clear n0_ n1_ n2_ n3_; (try clear hb); (try clear hb2); (try clear hk); (try clear hi); (try clear ho0)) | ((with_reducible refine gate_callee (f := 13) rfl ?_); refine goesL_ (some 103) rfl rfl Try.func13 (by kernel_rfl) rfl #[.slice (some ⟨go22, 0, none⟩) y484.length co44, .slice (some ⟨go28, 0, none⟩) y488.length co48, .int .i64 a2] rfl (by (try simp only [List.map_toArray, List.map_cons, List.map_nil]); first | done | (rw [show y484.length = y474.length from (Kd.R_reads' HO476.out).1.symm, show y488.length = y480.length from (Kd.R_reads' HO482.out).1.symm] <;> rfl) | rfl | (simp only [List.length_drop, List.length_take]; rfl)) ?_; (with_reducible refine (leak_Explain.calls _ _ y484 _ _ y488 a2 t494 true t496 _ ?side1 ?side2 ?side3 ?side4 A31.out).mono ?_); (case side1 => exact cc_ ((Kd.R_reads' HO476.out).2.2)); (case side2 => rw [show y484.length = y474.length from (Kd.R_reads' HO476.out).1.symm]; exact (Kd.R_reads' HO476.out).2.1); (case side3 => exact cc_ ((Kd.R_reads' HO482.out).2.2)); (case side4 => rw [show y488.length = y480.length from (Kd.R_reads' HO482.out).1.symm]; exact (Kd.R_reads' HO482.out).2.1); rintro e w52 ⟨v497, rfl, ho0, hb⟩; refine ⟨_, rfl, ?_⟩; have n0_ := Aside0.mk (Kd.R_below (rr_ HO476) hb); have n1_ := Aside0.mk (Kd.R_below (rr_ HO482) hb); have n2_ := Aside0.mk (Kd.R_elder' (rr_ HO493) (Kd.R_base ho0) hb); have n3_ := Aside0.mk (Kd.R_lower (Kd.R_new' ho0 (Kd.R_lt (rr_ HO493))) (below_size (bb_ HB))); have n4_ := Aside0.mk (below_step (bb_ HB) hb); clear HO476; clear HO482; clear HO493; clear HB; have HO476 := n0_; have HO482 := n1_; have HO493 := n2_; have HO498 := n3_; have HB := n4_; clear n0_ n1_ n2_ n3_ n4_; (try clear hb); (try clear hb2); (try clear hk); (try clear hi); (try clear ho0); obtain ⟨Ao53, co53, eo53⟩ := Kd.R_slice HO498.out; subst eo53; obtain ⟨Ao54, co54, eo54⟩ := Kd.R_slice HO493.out; subst eo54))
                go_ret
                exact ⟨by first | rfl | (simp [errW_none, errW_some] <;> rfl) | (simp only [← hji18, ← hji21, ← hji23, ← hji26, ← hji27]; first | rfl | (simp [errW_none, errW_some] <;> rfl)) | (simp [*, errW_none, errW_some] <;> rfl), by repeat (first | (with_reducible first | exact HB.out | apply below_alloc | apply pw_below_drewN | apply below_drew1) | exact HB.out)⟩
               ·replace c36 := Bool.eq_false_iff.mpr c36
                subst c36
                have H1 : (some false) = some r := by rw [if_neg (show ¬ (false = true) by decide)] at H; exact H
                clear H
                have H := H1
                clear H1
                obtain rfl := Option.some.inj H
                try go_wp2_with (first | ((with_reducible refine gate_dst (N := 36) rfl ?_); (try (refine gate_guard (by rfl) ?_; dsimp only)); refine Kd.R_lit k44 _ 44 ?hg (N := 36) ?hd (xs := ([] : List (S44))) (inner := []) (ok := fun _ => True) (okp := fun _ => True) ?hr ?hp (fun _ hk => hk) trivial (Below.refl _ _) (Nat.le_refl _) (by simp) ?_; (case hd => rfl); (case hg => rfl); (case hr => first | (go_simp; done) | (go_simp; rfl)); (case hp => exact (Reps.none _ _)); intro v472 w55 ho56 hb hg_ hnew_; clear hg_ hnew_; (first | rw [← Ny471.out] at ho56 | (simp only [Int.reduceToNat] at ho56; rw [← Ny471.out] at ho56)); have n0_ := Aside0.mk (Kd.R_lower ho56 (below_size (bb_ HB))); have n1_ := Aside0.mk (below_step (bb_ HB) hb); clear HB; have HO473 := n0_; have HB := n1_; clear n0_ n1_; clear hb ho56) | ((with_reducible refine gate_builtin (b := .append) (xs := #[.tmp 36, .tmp 37]) rfl ?_); (try (refine gate_guard (by rfl) ?_; dsimp only)); at_builtin; refine Kd.R_append_rows k44 (w0 := w) w.heap.size rfl (.tmp 36) (.tmp 37) 22 44 (.agg #[(.int .i64 0), (.int .i64 0), (.int .i64 0)]) 24 rfl Try.underlying22 info44 rfl (by decide) (by omega) v472 y471 l0 _ _ _ (fun _ => True) (fun _ => False) rfl rfl ?aO ?aR (fun _ _ h => h) (fun _ h => h.elim) ?aF ?aB ?aS ?aL ?_; (case aR => exact cc_ ((Kd.C_below HR0.out HB.out))); (case aB => exact (bb_ HB)); (case aF => exact (fun _ _ => trivial)); (case aO => exact (rr_ HO473)); (case aS => exact (below_size (bb_ HB))); (case aL => have := LMc15.out; omega); intro v475 w57 ho hb hg hat; rw [← Ny474.out] at ho; have n0_ := Aside0.mk (hb); have n1_ := Aside0.mk (ho); clear HB; clear HO473; have HB := n0_; have HO476 := n1_; clear n0_ n1_; clear ho hb hg hat) | ((with_reducible refine gate_dst (N := 39) rfl ?_); (try (refine gate_guard (by rfl) ?_; dsimp only)); refine Kd.R_lit k46 _ 46 ?hg (N := 39) ?hd (xs := ([] : List (S46))) (inner := []) (ok := fun _ => True) (okp := fun _ => True) ?hr ?hp (fun _ hk => hk) trivial (Below.refl _ _) (Nat.le_refl _) (by simp) ?_; (case hd => rfl); (case hg => rfl); (case hr => first | (go_simp; done) | (go_simp; rfl)); (case hp => exact (Reps.none _ _)); intro v478 w58 ho59 hb hg_ hnew_; clear hg_ hnew_; (first | rw [← Ny477.out] at ho59 | (simp only [Int.reduceToNat] at ho59; rw [← Ny477.out] at ho59)); have n0_ := Aside0.mk (Kd.R_below (rr_ HO476) hb); have n1_ := Aside0.mk (Kd.R_lower ho59 (below_size (bb_ HB))); have n2_ := Aside0.mk (below_step (bb_ HB) hb); clear HO476; clear HB; have HO476 := n0_; have HO479 := n1_; have HB := n2_; clear n0_ n1_ n2_; clear hb ho59) | ((with_reducible refine gate_builtin (b := .append) (xs := #[.tmp 39, .tmp 40]) rfl ?_); (try (refine gate_guard (by rfl) ?_; dsimp only)); at_builtin; refine Kd.R_append_rows k46 (w0 := w) w.heap.size rfl (.tmp 39) (.tmp 40) 23 46 (.agg #[(.int .i64 0), (.int .i64 0)]) 16 rfl Try.underlying23 info46 rfl (by decide) (by omega) v478 y477 l1 _ _ _ (fun _ => True) (fun _ => False) rfl rfl ?aO ?aR (fun _ _ h => h) (fun _ h => h.elim) ?aF ?aB ?aS ?aL ?_; (case aR => exact cc_ ((Kd.C_below HR1.out HB.out))); (case aB => exact (bb_ HB)); (case aF => exact (fun _ _ => trivial)); (case aO => exact (rr_ HO479)); (case aS => exact (below_size (bb_ HB))); (case aL => have := LMc16.out; omega); intro v481 w60 ho hb hg hat; rw [← Ny480.out] at ho; have n0_ := Aside0.mk (Kd.R_over' (rr_ HO476) (Kd.R_typed (rr_ HO479)) (by decide) hg); have n1_ := Aside0.mk (hb); have n2_ := Aside0.mk (ho); clear HO476; clear HB; clear HO479; have HO476 := n0_; have HB := n1_; have HO482 := n2_; clear n0_ n1_ n2_; clear ho hb hg hat))
                have n0_ := Aside0.mk (Kd.R_drew HO476.out)
                have n1_ := Aside0.mk (Kd.R_drew HO482.out)
                have n2_ := Aside0.mk (below_drew1 HB.out)
                clear HO476
                clear HO482
                clear HB
                have HO476 := n0_
                have HO482 := n1_
                have HB := n2_
                clear n0_ n1_ n2_
                refine start_ (n := 12) (S := fun w' => True) (ds := []) #[n_, n_, n_, n_, n_, n_, n_, n_, n_, n_, n_, n_] (by kernel_rfl) rfl rfl trivial (fun hHeld => ?_); refine with_tabW cohousinglaw30_LeakPlay.tab6 cohousinglaw30_LeakPlay.bits6 (fun HT_ HW_ => ?_)
                generalize w60.drew = w61 at HO476 HO482 HB hHeld ⊢
                refine pu_ 0 42 (w_ 12 1) rfl HT_ ?_
                refine pu_ 1 43 (w_ 12 3) rfl HT_ ?_
                refine pu_ 2 44 (w_ 12 7) rfl HT_ ?_
                refine pu_ 3 45 (w_ 12 15) rfl HT_ ?_
                refine pu_ 4 46 (w_ 12 31) rfl HT_ ?_
                refine pu_ 5 47 (w_ 12 63) rfl HT_ ?_
                refine pu_ 6 48 (w_ 12 127) rfl HT_ ?_
                refine pu_ 7 49 (w_ 12 255) rfl HT_ ?_
                refine pu_ 8 50 (w_ 12 511) rfl HT_ ?_
                refine pu_ 9 51 (w_ 12 1023) rfl HT_ ?_
                refine pu_ 10 16 (w_ 12 2047) rfl HT_ ?_
                refine pu_ 11 17 (w_ 12 4095) rfl HT_ ?_
                refine done_ (done_of HT_.out (by kernel_rfl)) ?_
                obtain ⟨Ao62, co62, eo62⟩ := Kd.R_slice HO476.out
                subst eo62
                have p483 : 0 ≤ ((ji18) : Int) := od_
                have q483 : (ji18) < (y474.length : Int) := od_
                obtain ⟨ad483, e483, hx483_0, hx483_1, hx483_2⟩ := at_T44 (Kd.R_reads' HO476.out).2.2 (ji18) p483 q483
                cases e483
                replace p483 := eq_true p483
                replace q483 := eq_true q483
                have p22 : 0 ≤ ((ji18) : Int) := od_
                have q22 : ((ji18) : Int) < ((y474.length : Int) : Int) := od_
                obtain ⟨go22, co22, eo22, gb22, gl22, cl22, HG22⟩ := Kd.R_form HO476.out (by omega)
                (first | cases eo22 | (injection eo22 with ea_ en_ ec_; (first | subst ea_ | (injection ea_ with ea_; subst ea_)); subst ec_; clear en_))
                have GB22 := Aside0.mk gb22
                have GG22 := Aside0.mk HG22
                clear gb22 gl22 HG22
                (first | simp only [add_plain] at hx483_0 | skip)
                (first | simp only [add_plain] at hx483_1 | skip)
                (first | simp only [add_plain] at hx483_2 | skip)
                obtain ⟨ce22, hcl22, hM22, hcc22, hfr22⟩ := Kd.R_elem HO476.out z44 ((ji18) : Int) p22 q22
                obtain rfl := k44_openM hM22
                have hx22_0 : w61.cell? ⟨go22, ((ji18) : Int).toNat * 3, none⟩ = some (.int .i64 ((rd_T44 y474 (ji18)).f0)) := hcc22 0 _ rfl
                have hx22_1 : w61.cell? ⟨go22, ((ji18) : Int).toNat * 3 + 1, none⟩ = some (.int .i64 ((rd_T44 y474 (ji18)).f1)) := hcc22 1 _ rfl
                have hx22_2 : w61.cell? ⟨go22, ((ji18) : Int).toNat * 3 + 2, none⟩ = some (.int .i64 ((rd_T44 y474 (ji18)).f2)) := hcc22 2 _ rfl
                have hf22_0 : w61.frozen? ⟨go22, ((ji18) : Int).toNat * 3, none⟩ = false := hfr22 0
                have hf22_1 : w61.frozen? ⟨go22, ((ji18) : Int).toNat * 3 + 1, none⟩ = false := hfr22 1
                have hf22_2 : w61.frozen? ⟨go22, ((ji18) : Int).toNat * 3 + 2, none⟩ = false := hfr22 2
                clear hcl22 hcc22 hfr22 hM22
                replace p22 := eq_true p22
                replace q22 := eq_true q22
                have HX63 := Aside0.mk (show Kd.R k44 44 w61 w.heap.size (fun _ => True) (.slice (some ⟨go22, 0, none⟩) y474.length co62) y474 from (rr_ HO476))
                obtain ⟨ce63, hcl63, hM63, hcc63, hfr63⟩ := Kd.R_elem HX63.out z44 ((ji18) : Int) (od_) (by have h_ : ((ji18) : Int) < ((y474.length : Int) : Int) := od_; first | exact h_ | (have e_ := (Kd.R_reads' HO476.out).1; omega) | simpa using h_)
                obtain rfl := k44_openM hM63
                have HP63 := Kd.R_seg HX63.out ((ji18) : Int) (od_) (by have h_ : ((ji18) : Int) < ((y474.length : Int) : Int) := od_; first | exact h_ | (have e_ := (Kd.R_reads' HO476.out).1; omega) | simpa using h_) (seg := [.int .i64 ji21]) (j := 2) hcl63 hcc63 (show 3 ≤ 3 from by decide) (x' := (⟨(rd_T44 y474 (ji18)).f0, (rd_T44 y474 (ji18)).f1, ji21⟩ : S44)) (k44_mkM _ _ _ (⟨(rd_T44 y474 (ji18)).f0, (rd_T44 y474 (ji18)).f1, ji21⟩ : S44) ) (fun _ hk => hk)
                have hx63_2 := hcc63 2 _ rfl
                (try simp only [show (k44).sz = 3 from rfl, Nat.mul_one, Nat.add_zero] at hx63_2)
                have hf63_2 := hfr63 2
                (try simp only [show (k44).sz = 3 from rfl, Nat.mul_one, Nat.add_zero] at hf63_2)
                clear hcl63 hcc63 hfr63 hM63
                try go_wp2_with (first | ((with_reducible refine gate_store (t := 3) (p := 64) rfl ?_); refine store_event (t := 3) (p := 64) (v := ?vo_w64) (w1 := (w61.setCell ⟨go22, ((ji18) : Int).toNat * 3 + 2, none⟩ (.int .i64 ji21))) ?hg ?ho ?hn ?hr ?_; (case ho => rfl); (case hg => rfl); (case hn => rfl); (case hr => first | (go_simp; done) | (go_simp; rfl)); intro w64 hw; have hg : w61.grownBy w64 (some go22) := (by rw [hw]; exact HP63.2); have hp_ : Kd.R k44 44 w64 w.heap.size (fun _ => True) (.slice (some ⟨go22, 0, none⟩) y474.length co62) y484 := (by rw [hw, Ny484.out]; exact HP63.1); clear HP63; have n0_ := Aside0.mk (hp_); have n1_ := Aside0.mk (Kd.R_over' (v := (.slice (some ⟨go22, 0, none⟩) y474.length co62)) (rr_ HO482) (Kd.R_typed HO476.out) (by decide) hg); have n2_ := Aside0.mk ((by rw [hw]; exact below_set (HB.out) GB22.out : Below w.heap.size w w64)); clear HO476; clear HO482; clear HB; have HO476 := n0_; have HO482 := n1_; have HB := n2_; clear n0_ n1_ n2_; clear hg hw hp_))
                have n0_ := Aside0.mk (Kd.R_drew HO476.out)
                have n1_ := Aside0.mk (Kd.R_drew HO482.out)
                have n2_ := Aside0.mk (below_drew1 HB.out)
                clear HO476
                clear HO482
                clear HB
                have HO476 := n0_
                have HO482 := n1_
                have HB := n2_
                clear n0_ n1_ n2_
                obtain ⟨Ao66, co66, eo66⟩ := Kd.R_slice HO482.out
                (first | subst eo66 | (injection eo66 with f1_ f2_ f3_; have f4_ := f1_.symm; have f5_ := f3_.symm; clear f1_ f2_ f3_; subst f4_; subst f5_))
                have p485 : 0 ≤ ((ji23) : Int) := od_
                have q485 : (ji23) < (y480.length : Int) := od_
                obtain ⟨ad485, e485, hx485_0, hx485_1⟩ := at_T46 (Kd.R_reads' HO482.out).2.2 (ji23) p485 q485
                cases e485
                replace p485 := eq_true p485
                replace q485 := eq_true q485
                have p486 : 0 ≤ ((ji23) : Int) := od_
                have q486 : (ji23) < (y480.length : Int) := od_
                obtain ⟨ad486, e486, hx486_0, hx486_1⟩ := at_T46 (Kd.R_reads' HO482.out).2.2 (ji23) p486 q486
                obtain rfl : ad485 = ad486 := (by injection e486)
                replace p486 := eq_true p486
                replace q486 := eq_true q486
                have p28 : 0 ≤ ((ji23) : Int) := od_
                have q28 : ((ji23) : Int) < ((y480.length : Int) : Int) := od_
                obtain ⟨go28, co28, eo28, gb28, gl28, cl28, HG28⟩ := Kd.R_form HO482.out (by omega)
                (first | cases eo28 | (injection eo28 with ea_ en_ ec_; (first | subst ea_ | (injection ea_ with ea_; subst ea_)); subst ec_; clear en_))
                have GB28 := Aside0.mk gb28
                have GG28 := Aside0.mk HG28
                clear gb28 gl28 HG28
                (first | simp only [add_plain] at hx485_0 | skip)
                (first | simp only [add_plain] at hx485_1 | skip)
                (first | simp only [add_plain] at hx486_0 | skip)
                (first | simp only [add_plain] at hx486_1 | skip)
                obtain ⟨ce28, hcl28, hM28, hcc28, hfr28⟩ := Kd.R_elem HO482.out z46 ((ji23) : Int) p28 q28
                obtain rfl := k46_openM hM28
                have hx28_0 : World.cell? _ ⟨go28, ((ji23) : Int).toNat * 2, none⟩ = some (.int .i64 ((rd_T46 y480 (ji23)).f0)) := hcc28 0 _ rfl
                have hx28_1 : World.cell? _ ⟨go28, ((ji23) : Int).toNat * 2 + 1, none⟩ = some (.int .i64 ((rd_T46 y480 (ji23)).f1)) := hcc28 1 _ rfl
                have hf28_0 : World.frozen? _ ⟨go28, ((ji23) : Int).toNat * 2, none⟩ = false := hfr28 0
                have hf28_1 : World.frozen? _ ⟨go28, ((ji23) : Int).toNat * 2 + 1, none⟩ = false := hfr28 1
                clear hcl28 hcc28 hfr28 hM28
                replace p28 := eq_true p28
                replace q28 := eq_true q28
                obtain ⟨ce67, hcl67, hM67, hcc67, hfr67⟩ := Kd.R_elem HO482.out z46 ((ji23) : Int) (od_) (by have h_ : ((ji23) : Int) < ((y480.length : Int) : Int) := od_; first | exact h_ | (have e_ := (Kd.R_reads' HO482.out).1; omega) | simpa using h_)
                obtain rfl := k46_openM hM67
                have HP67 := (Kd.R_seg HO482.out ((ji23) : Int) (od_) (by have h_ : ((ji23) : Int) < ((y480.length : Int) : Int) := od_; first | exact h_ | (have e_ := (Kd.R_reads' HO482.out).1; omega) | simpa using h_) (seg := [.int .i64 ji26]) (j := 0) hcl67 hcc67 (show 1 ≤ 2 from by decide) (x' := (⟨ji26, (rd_T46 y480 (ji23)).f1⟩ : S46)) (k46_mkM _ _ _ (⟨ji26, (rd_T46 y480 (ji23)).f1⟩ : S46) ) (fun _ hk => hk)).1
                rw [← Ny487.out] at HP67
                have HQ67 := Aside0.mk HP67
                clear hcl67 hcc67 hfr67 hM67 HP67
                have p29 : 0 ≤ ((ji23) : Int) := od_
                have q29 : ((ji23) : Int) < ((y480.length : Int) : Int) := od_
                replace p29 := eq_true p29
                replace q29 := eq_true q29
                obtain ⟨ce68, hcl68, hM68, hcc68, hfr68⟩ := Kd.R_elem HQ67.out z46 ((ji23) : Int) (od_) (by have h_ : ((ji23) : Int) < ((y480.length : Int) : Int) := od_; first | exact h_ | (have e_ := (Kd.R_reads' HO482.out).1; omega) | simpa using h_)
                obtain rfl := k46_openM hM68
                have HP68 := (Kd.R_seg HQ67.out ((ji23) : Int) (od_) (by have h_ : ((ji23) : Int) < ((y480.length : Int) : Int) := od_; first | exact h_ | (have e_ := (Kd.R_reads' HO482.out).1; omega) | simpa using h_) (seg := [.int .i64 ji27]) (j := 1) hcl68 hcc68 (show 2 ≤ 2 from by decide) (x' := (⟨(rd_T46 y487 (ji23)).f0, ji27⟩ : S46)) (k46_mkM _ _ _ (⟨(rd_T46 y487 (ji23)).f0, ji27⟩ : S46) ) (fun _ hk => hk)).1
                rw [← Ny488.out] at HP68
                have HQ68 := Aside0.mk HP68
                clear hcl68 hcc68 hfr68 hM68 HP68
                refine start_ (n := 28) (S := fun w' => w'.cell? ⟨go28, ((ji23)).toNat * 2, none⟩ = some (.int .i64 ((rd_T46 y480 (ji23)).f0)) ∧ w'.cell? ⟨go28, ((ji23)).toNat * 2 + 1, none⟩ = some (.int .i64 ((rd_T46 y480 (ji23)).f1)) ∧ w'.cell? ⟨go28, ((ji23)).toNat * 2, none⟩ = some (.int .i64 ((rd_T46 y480 (ji23)).f0)) ∧ w'.cell? ⟨go28, ((ji23)).toNat * 2 + 1, none⟩ = some (.int .i64 ((rd_T46 y480 (ji23)).f1))) (ds := [24, 27]) #[n_, n_, n_, n_, n_, n_, n_, n_, n_, n_, n_, n_, n_, n_, n_, n_, n_, n_, n_, n_, n_, n_, n_, n_, n_, n_, n_, n_] (by kernel_rfl) rfl rfl ⟨hx485_0, hx485_1, hx486_0, hx486_1⟩ (fun hHeld => ?_); refine with_tabW cohousinglaw30_LeakPlay.tab8 cohousinglaw30_LeakPlay.bits8 (fun HT_ HW_ => ?_)
                generalize w64.drew = w65 at HO476 HO482 HB GG28 HQ67 HQ68 hf28_0 hf28_1 hx28_0 hx28_1 hx485_0 hx485_1 hx486_0 hx486_1 hHeld ⊢
                refine pu_ 0 65 (w_ 28 1) rfl HT_ ?_
                refine pu_ 1 66 (w_ 28 3) rfl HT_ ?_
                refine pu_ 2 67 (w_ 28 7) rfl HT_ ?_
                refine pu_ 3 68 (w_ 28 15) rfl HT_ ?_
                refine pu_ 4 69 (w_ 28 31) rfl HT_ ?_
                refine pu_ 5 70 (w_ 28 63) rfl HT_ ?_
                refine pu_ 6 71 (w_ 28 127) rfl HT_ ?_
                refine pu_ 7 72 (w_ 28 255) rfl HT_ ?_
                refine pu_ 9 74 (w_ 28 767) rfl HT_ ?_
                refine pu_ 10 75 (w_ 28 1791) rfl HT_ ?_
                refine pu_ 13 78 (w_ 28 9983) rfl HT_ ?_
                refine pu_ 14 79 (w_ 28 26367) rfl HT_ ?_
                refine pu_ 15 80 (w_ 28 59135) rfl HT_ ?_
                refine pu_ 16 81 (w_ 28 124671) rfl HT_ ?_
                refine pu_ 18 83 (w_ 28 386815) rfl HT_ ?_
                refine pu_ 19 84 (w_ 28 911103) rfl HT_ ?_
                refine ta_ 8 73 (w_ 28 911359) rfl HT_ HW_ hHeld (by rintro w' ⟨s0, s1, s2, s3⟩; go_simp; with_reducible rfl) ?_
                refine pu_ 11 76 (w_ 28 913407) rfl HT_ ?_
                refine pu_ 12 77 (w_ 28 917503) rfl HT_ ?_
                refine ta_ 17 82 (w_ 28 1048575) rfl HT_ HW_ hHeld (by rintro w' ⟨s0, s1, s2, s3⟩; go_simp; with_reducible rfl) ?_
                refine pu_ 20 85 (w_ 28 2097151) rfl HT_ ?_
                refine pu_ 21 86 (w_ 28 4194303) rfl HT_ ?_
                refine pu_ 22 87 (w_ 28 8388607) rfl HT_ ?_
                refine pu_ 23 88 (w_ 28 16777215) rfl HT_ ?_
                refine last_ (i := 24) (N := none) (w_ 28 33554431) rfl rfl (one_of HT_.out (by kernel_rfl)) (by decide) (fun K hK => ?_)
                refine skip_ (w1 := ?_) (by rfl) rfl ?_ ?_
                rotate_left
                ·go_simp
                 rfl
                refine hK.out _ _ ?_
                clear hK K
                refine pu_ 25 89 (w_ 28 67108863) rfl HT_ ?_
                refine pu_ 26 90 (w_ 28 134217727) rfl HT_ ?_
                refine last_ (i := 27) (N := none) (w_ 28 268435455) rfl rfl (one_of HT_.out (by kernel_rfl)) (by decide) (fun K hK => ?_)
                refine skip_ (w1 := ?_) (by rfl) rfl ?_ ?_
                rotate_left
                ·go_simp
                 rfl
                refine hK.out _ _ ?_
                clear hK K
                refine done_ (done_of HT_.out (by kernel_rfl)) ?_
                try go_wp2_with (first | ((with_reducible refine gate_callee (f := 13) rfl ?_); refine gl_ (some 95) Try.func13 #[.slice A0 l0.length c0, .slice A1 l1.length c1, .int .i64 a2] ?_; (with_reducible refine (leak_Explain.calls _ _ l0 _ _ l1 a2 t489 true t491 _ ?side1 ?side2 ?side3 ?side4 A30.out).mono ?_); (case side1 => exact Kd.C_below HR0.out (by repeat (first | (with_reducible first | exact HB.out | apply below_alloc | apply pw_below_drewN | apply below_drew1 | refine below_set ?_ GB28.out | refine below_set ?_ GB28.out) | exact HB.out))); (case side2 => exact HC0.out); (case side3 => exact Kd.C_below HR1.out (by repeat (first | (with_reducible first | exact HB.out | apply below_alloc | apply pw_below_drewN | apply below_drew1 | refine below_set ?_ GB28.out | refine below_set ?_ GB28.out) | exact HB.out))); (case side4 => exact HC1.out); rintro e w69 ⟨v492, rfl, ho0, hb⟩; refine ⟨_, rfl, ?_⟩; have n0_ := Aside0.mk (Kd.R_below (by (with_reducible repeat (first | apply Kd.R_alloc | apply Kd.R_drewN | apply Kd.R_drew)); exact (Kd.R_mono (Kd.R_far (p := ⟨go28, ((ji23) : Int).toNat * 2 + 1, none⟩) (Kd.R_far (p := ⟨go28, ((ji23) : Int).toNat * 2, none⟩) (Kd.R_types HO476.out GG28.out (by decide)) (fun _ hk => hk.2) (.int .i64 ji26)) (fun _ hk => hk.2) (.int .i64 ji27)) (fun _ h_ => h_.1))) hb); have n1_ := Aside0.mk (Kd.R_below (rr_ HQ68) hb); have n2_ := Aside0.mk (Kd.R_lower ho0 (below_size (by repeat (first | (with_reducible first | exact HB.out | apply below_alloc | apply pw_below_drewN | apply below_drew1 | refine below_set ?_ GB28.out | refine below_set ?_ GB28.out) | exact HB.out)))); have n3_ := Aside0.mk (below_step (by repeat (first | (with_reducible first | exact HB.out | apply below_alloc | apply pw_below_drewN | apply below_drew1 | refine below_set ?_ GB28.out | refine below_set ?_ GB28.out) | exact HB.out)) hb); clear HO476; clear HO482; clear HB; have HO476 := n0_; have HO482 := n1_; have HO493 := n2_; have HB := n3_; clear n0_ n1_ n2_ n3_; (try clear hb); (try clear hb2); (try clear hk); (try clear hi); (try clear ho0)) | ((with_reducible refine gate_callee (f := 13) rfl ?_); refine goesL_ (some 103) rfl rfl Try.func13 (by kernel_rfl) rfl #[.slice (some ⟨go22, 0, none⟩) y484.length co62, .slice (some ⟨go28, 0, none⟩) y488.length co66, .int .i64 a2] rfl (by (try simp only [List.map_toArray, List.map_cons, List.map_nil]); first | done | (rw [show y484.length = y474.length from (Kd.R_reads' HO476.out).1.symm, show y488.length = y480.length from (Kd.R_reads' HO482.out).1.symm] <;> rfl) | rfl | (simp only [List.length_drop, List.length_take]; rfl)) ?_; (with_reducible refine (leak_Explain.calls _ _ y484 _ _ y488 a2 t494 false t496 _ ?side1 ?side2 ?side3 ?side4 A31.out).mono ?_); (case side1 => exact cc_ ((Kd.R_reads' HO476.out).2.2)); (case side2 => rw [show y484.length = y474.length from (Kd.R_reads' HO476.out).1.symm]; exact (Kd.R_reads' HO476.out).2.1); (case side3 => exact cc_ ((Kd.R_reads' HO482.out).2.2)); (case side4 => rw [show y488.length = y480.length from (Kd.R_reads' HO482.out).1.symm]; exact (Kd.R_reads' HO482.out).2.1); rintro e w70 ⟨v497, rfl, ho0, hb⟩; refine ⟨_, rfl, ?_⟩; have n0_ := Aside0.mk (Kd.R_below (rr_ HO476) hb); have n1_ := Aside0.mk (Kd.R_below (rr_ HO482) hb); have n2_ := Aside0.mk (Kd.R_elder' (rr_ HO493) (Kd.R_base ho0) hb); have n3_ := Aside0.mk (Kd.R_lower (Kd.R_new' ho0 (Kd.R_lt (rr_ HO493))) (below_size (bb_ HB))); have n4_ := Aside0.mk (below_step (bb_ HB) hb); clear HO476; clear HO482; clear HO493; clear HB; have HO476 := n0_; have HO482 := n1_; have HO493 := n2_; have HO498 := n3_; have HB := n4_; clear n0_ n1_ n2_ n3_ n4_; (try clear hb); (try clear hb2); (try clear hk); (try clear hi); (try clear ho0)))
                go_ret
                exact ⟨by first | rfl | (simp [errW_none, errW_some] <;> rfl) | (simp only [← hji18, ← hji21, ← hji23, ← hji26, ← hji27]; first | rfl | (simp [errW_none, errW_some] <;> rfl)) | (simp [*, errW_none, errW_some] <;> rfl), by repeat (first | (with_reducible first | exact HB.out | apply below_alloc | apply pw_below_drewN | apply below_drew1) | exact HB.out)⟩
              ·replace c35 := Bool.eq_false_iff.mpr c35
               subst c35
               have H1 : (some true) = some r := by rw [if_neg (show ¬ (false = true) by decide)] at H; exact H
               clear H
               have H := H1
               clear H1
               obtain rfl := Option.some.inj H
               try go_wp2_with (first | ((with_reducible refine gate_dst (N := 36) rfl ?_); (try (refine gate_guard (by rfl) ?_; dsimp only)); refine Kd.R_lit k44 _ 44 ?hg (N := 36) ?hd (xs := ([] : List (S44))) (inner := []) (ok := fun _ => True) (okp := fun _ => True) ?hr ?hp (fun _ hk => hk) trivial (Below.refl _ _) (Nat.le_refl _) (by simp) ?_; (case hd => rfl); (case hg => rfl); (case hr => first | (go_simp; done) | (go_simp; rfl)); (case hp => exact (Reps.none _ _)); intro v472 w71 ho72 hb hg_ hnew_; clear hg_ hnew_; (first | rw [← Ny471.out] at ho72 | (simp only [Int.reduceToNat] at ho72; rw [← Ny471.out] at ho72)); have n0_ := Aside0.mk (Kd.R_lower ho72 (below_size (bb_ HB))); have n1_ := Aside0.mk (below_step (bb_ HB) hb); clear HB; have HO473 := n0_; have HB := n1_; clear n0_ n1_; clear hb ho72) | ((with_reducible refine gate_builtin (b := .append) (xs := #[.tmp 36, .tmp 37]) rfl ?_); (try (refine gate_guard (by rfl) ?_; dsimp only)); at_builtin; refine Kd.R_append_rows k44 (w0 := w) w.heap.size rfl (.tmp 36) (.tmp 37) 22 44 (.agg #[(.int .i64 0), (.int .i64 0), (.int .i64 0)]) 24 rfl Try.underlying22 info44 rfl (by decide) (by omega) v472 y471 l0 _ _ _ (fun _ => True) (fun _ => False) rfl rfl ?aO ?aR (fun _ _ h => h) (fun _ h => h.elim) ?aF ?aB ?aS ?aL ?_; (case aR => exact cc_ ((Kd.C_below HR0.out HB.out))); (case aB => exact (bb_ HB)); (case aF => exact (fun _ _ => trivial)); (case aO => exact (rr_ HO473)); (case aS => exact (below_size (bb_ HB))); (case aL => have := LMc15.out; omega); intro v475 w73 ho hb hg hat; rw [← Ny474.out] at ho; have n0_ := Aside0.mk (hb); have n1_ := Aside0.mk (ho); clear HB; clear HO473; have HB := n0_; have HO476 := n1_; clear n0_ n1_; clear ho hb hg hat) | ((with_reducible refine gate_dst (N := 39) rfl ?_); (try (refine gate_guard (by rfl) ?_; dsimp only)); refine Kd.R_lit k46 _ 46 ?hg (N := 39) ?hd (xs := ([] : List (S46))) (inner := []) (ok := fun _ => True) (okp := fun _ => True) ?hr ?hp (fun _ hk => hk) trivial (Below.refl _ _) (Nat.le_refl _) (by simp) ?_; (case hd => rfl); (case hg => rfl); (case hr => first | (go_simp; done) | (go_simp; rfl)); (case hp => exact (Reps.none _ _)); intro v478 w74 ho75 hb hg_ hnew_; clear hg_ hnew_; (first | rw [← Ny477.out] at ho75 | (simp only [Int.reduceToNat] at ho75; rw [← Ny477.out] at ho75)); have n0_ := Aside0.mk (Kd.R_below (rr_ HO476) hb); have n1_ := Aside0.mk (Kd.R_lower ho75 (below_size (bb_ HB))); have n2_ := Aside0.mk (below_step (bb_ HB) hb); clear HO476; clear HB; have HO476 := n0_; have HO479 := n1_; have HB := n2_; clear n0_ n1_ n2_; clear hb ho75) | ((with_reducible refine gate_builtin (b := .append) (xs := #[.tmp 39, .tmp 40]) rfl ?_); (try (refine gate_guard (by rfl) ?_; dsimp only)); at_builtin; refine Kd.R_append_rows k46 (w0 := w) w.heap.size rfl (.tmp 39) (.tmp 40) 23 46 (.agg #[(.int .i64 0), (.int .i64 0)]) 16 rfl Try.underlying23 info46 rfl (by decide) (by omega) v478 y477 l1 _ _ _ (fun _ => True) (fun _ => False) rfl rfl ?aO ?aR (fun _ _ h => h) (fun _ h => h.elim) ?aF ?aB ?aS ?aL ?_; (case aR => exact cc_ ((Kd.C_below HR1.out HB.out))); (case aB => exact (bb_ HB)); (case aF => exact (fun _ _ => trivial)); (case aO => exact (rr_ HO479)); (case aS => exact (below_size (bb_ HB))); (case aL => have := LMc16.out; omega); intro v481 w76 ho hb hg hat; rw [← Ny480.out] at ho; have n0_ := Aside0.mk (Kd.R_over' (rr_ HO476) (Kd.R_typed (rr_ HO479)) (by decide) hg); have n1_ := Aside0.mk (hb); have n2_ := Aside0.mk (ho); clear HO476; clear HB; clear HO479; have HO476 := n0_; have HB := n1_; have HO482 := n2_; clear n0_ n1_ n2_; clear ho hb hg hat))
               have n0_ := Aside0.mk (Kd.R_drew HO476.out)
               have n1_ := Aside0.mk (Kd.R_drew HO482.out)
               have n2_ := Aside0.mk (below_drew1 HB.out)
               clear HO476
               clear HO482
               clear HB
               have HO476 := n0_
               have HO482 := n1_
               have HB := n2_
               clear n0_ n1_ n2_
               refine start_ (n := 12) (S := fun w' => True) (ds := []) #[n_, n_, n_, n_, n_, n_, n_, n_, n_, n_, n_, n_] (by kernel_rfl) rfl rfl trivial (fun hHeld => ?_); refine with_tabW cohousinglaw30_LeakPlay.tab6 cohousinglaw30_LeakPlay.bits6 (fun HT_ HW_ => ?_)
               generalize w76.drew = w77 at HO476 HO482 HB hHeld ⊢
               refine pu_ 0 42 (w_ 12 1) rfl HT_ ?_
               refine pu_ 1 43 (w_ 12 3) rfl HT_ ?_
               refine pu_ 2 44 (w_ 12 7) rfl HT_ ?_
               refine pu_ 3 45 (w_ 12 15) rfl HT_ ?_
               refine pu_ 4 46 (w_ 12 31) rfl HT_ ?_
               refine pu_ 5 47 (w_ 12 63) rfl HT_ ?_
               refine pu_ 6 48 (w_ 12 127) rfl HT_ ?_
               refine pu_ 7 49 (w_ 12 255) rfl HT_ ?_
               refine pu_ 8 50 (w_ 12 511) rfl HT_ ?_
               refine pu_ 9 51 (w_ 12 1023) rfl HT_ ?_
               refine pu_ 10 16 (w_ 12 2047) rfl HT_ ?_
               refine pu_ 11 17 (w_ 12 4095) rfl HT_ ?_
               refine done_ (done_of HT_.out (by kernel_rfl)) ?_
               obtain ⟨Ao78, co78, eo78⟩ := Kd.R_slice HO476.out
               subst eo78
               have p483 : 0 ≤ ((ji18) : Int) := od_
               have q483 : (ji18) < (y474.length : Int) := od_
               obtain ⟨ad483, e483, hx483_0, hx483_1, hx483_2⟩ := at_T44 (Kd.R_reads' HO476.out).2.2 (ji18) p483 q483
               cases e483
               replace p483 := eq_true p483
               replace q483 := eq_true q483
               have p22 : 0 ≤ ((ji18) : Int) := od_
               have q22 : ((ji18) : Int) < ((y474.length : Int) : Int) := od_
               obtain ⟨go22, co22, eo22, gb22, gl22, cl22, HG22⟩ := Kd.R_form HO476.out (by omega)
               (first | cases eo22 | (injection eo22 with ea_ en_ ec_; (first | subst ea_ | (injection ea_ with ea_; subst ea_)); subst ec_; clear en_))
               have GB22 := Aside0.mk gb22
               have GG22 := Aside0.mk HG22
               clear gb22 gl22 HG22
               (first | simp only [add_plain] at hx483_0 | skip)
               (first | simp only [add_plain] at hx483_1 | skip)
               (first | simp only [add_plain] at hx483_2 | skip)
               obtain ⟨ce22, hcl22, hM22, hcc22, hfr22⟩ := Kd.R_elem HO476.out z44 ((ji18) : Int) p22 q22
               obtain rfl := k44_openM hM22
               have hx22_0 : w77.cell? ⟨go22, ((ji18) : Int).toNat * 3, none⟩ = some (.int .i64 ((rd_T44 y474 (ji18)).f0)) := hcc22 0 _ rfl
               have hx22_1 : w77.cell? ⟨go22, ((ji18) : Int).toNat * 3 + 1, none⟩ = some (.int .i64 ((rd_T44 y474 (ji18)).f1)) := hcc22 1 _ rfl
               have hx22_2 : w77.cell? ⟨go22, ((ji18) : Int).toNat * 3 + 2, none⟩ = some (.int .i64 ((rd_T44 y474 (ji18)).f2)) := hcc22 2 _ rfl
               have hf22_0 : w77.frozen? ⟨go22, ((ji18) : Int).toNat * 3, none⟩ = false := hfr22 0
               have hf22_1 : w77.frozen? ⟨go22, ((ji18) : Int).toNat * 3 + 1, none⟩ = false := hfr22 1
               have hf22_2 : w77.frozen? ⟨go22, ((ji18) : Int).toNat * 3 + 2, none⟩ = false := hfr22 2
               clear hcl22 hcc22 hfr22 hM22
               replace p22 := eq_true p22
               replace q22 := eq_true q22
               have HX79 := Aside0.mk (show Kd.R k44 44 w77 w.heap.size (fun _ => True) (.slice (some ⟨go22, 0, none⟩) y474.length co78) y474 from (rr_ HO476))
               obtain ⟨ce79, hcl79, hM79, hcc79, hfr79⟩ := Kd.R_elem HX79.out z44 ((ji18) : Int) (od_) (by have h_ : ((ji18) : Int) < ((y474.length : Int) : Int) := od_; first | exact h_ | (have e_ := (Kd.R_reads' HO476.out).1; omega) | simpa using h_)
               obtain rfl := k44_openM hM79
               have HP79 := Kd.R_seg HX79.out ((ji18) : Int) (od_) (by have h_ : ((ji18) : Int) < ((y474.length : Int) : Int) := od_; first | exact h_ | (have e_ := (Kd.R_reads' HO476.out).1; omega) | simpa using h_) (seg := [.int .i64 ji21]) (j := 2) hcl79 hcc79 (show 3 ≤ 3 from by decide) (x' := (⟨(rd_T44 y474 (ji18)).f0, (rd_T44 y474 (ji18)).f1, ji21⟩ : S44)) (k44_mkM _ _ _ (⟨(rd_T44 y474 (ji18)).f0, (rd_T44 y474 (ji18)).f1, ji21⟩ : S44) ) (fun _ hk => hk)
               have hx79_2 := hcc79 2 _ rfl
               (try simp only [show (k44).sz = 3 from rfl, Nat.mul_one, Nat.add_zero] at hx79_2)
               have hf79_2 := hfr79 2
               (try simp only [show (k44).sz = 3 from rfl, Nat.mul_one, Nat.add_zero] at hf79_2)
               clear hcl79 hcc79 hfr79 hM79
               try go_wp2_with (first | ((with_reducible refine gate_store (t := 3) (p := 64) rfl ?_); refine store_event (t := 3) (p := 64) (v := ?vo_w80) (w1 := (w77.setCell ⟨go22, ((ji18) : Int).toNat * 3 + 2, none⟩ (.int .i64 ji21))) ?hg ?ho ?hn ?hr ?_; (case ho => rfl); (case hg => rfl); (case hn => rfl); (case hr => first | (go_simp; done) | (go_simp; rfl)); intro w80 hw; have hg : w77.grownBy w80 (some go22) := (by rw [hw]; exact HP79.2); have hp_ : Kd.R k44 44 w80 w.heap.size (fun _ => True) (.slice (some ⟨go22, 0, none⟩) y474.length co78) y484 := (by rw [hw, Ny484.out]; exact HP79.1); clear HP79; have n0_ := Aside0.mk (hp_); have n1_ := Aside0.mk (Kd.R_over' (v := (.slice (some ⟨go22, 0, none⟩) y474.length co78)) (rr_ HO482) (Kd.R_typed HO476.out) (by decide) hg); have n2_ := Aside0.mk ((by rw [hw]; exact below_set (HB.out) GB22.out : Below w.heap.size w w80)); clear HO476; clear HO482; clear HB; have HO476 := n0_; have HO482 := n1_; have HB := n2_; clear n0_ n1_ n2_; clear hg hw hp_))
               have n0_ := Aside0.mk (Kd.R_drew HO476.out)
               have n1_ := Aside0.mk (Kd.R_drew HO482.out)
               have n2_ := Aside0.mk (below_drew1 HB.out)
               clear HO476
               clear HO482
               clear HB
               have HO476 := n0_
               have HO482 := n1_
               have HB := n2_
               clear n0_ n1_ n2_
               obtain ⟨Ao82, co82, eo82⟩ := Kd.R_slice HO482.out
               (first | subst eo82 | (injection eo82 with f1_ f2_ f3_; have f4_ := f1_.symm; have f5_ := f3_.symm; clear f1_ f2_ f3_; subst f4_; subst f5_))
               have p485 : 0 ≤ ((ji23) : Int) := od_
               have q485 : (ji23) < (y480.length : Int) := od_
               obtain ⟨ad485, e485, hx485_0, hx485_1⟩ := at_T46 (Kd.R_reads' HO482.out).2.2 (ji23) p485 q485
               cases e485
               replace p485 := eq_true p485
               replace q485 := eq_true q485
               have p486 : 0 ≤ ((ji23) : Int) := od_
               have q486 : (ji23) < (y480.length : Int) := od_
               obtain ⟨ad486, e486, hx486_0, hx486_1⟩ := at_T46 (Kd.R_reads' HO482.out).2.2 (ji23) p486 q486
               obtain rfl : ad485 = ad486 := (by injection e486)
               replace p486 := eq_true p486
               replace q486 := eq_true q486
               have p28 : 0 ≤ ((ji23) : Int) := od_
               have q28 : ((ji23) : Int) < ((y480.length : Int) : Int) := od_
               obtain ⟨go28, co28, eo28, gb28, gl28, cl28, HG28⟩ := Kd.R_form HO482.out (by omega)
               (first | cases eo28 | (injection eo28 with ea_ en_ ec_; (first | subst ea_ | (injection ea_ with ea_; subst ea_)); subst ec_; clear en_))
               have GB28 := Aside0.mk gb28
               have GG28 := Aside0.mk HG28
               clear gb28 gl28 HG28
               (first | simp only [add_plain] at hx485_0 | skip)
               (first | simp only [add_plain] at hx485_1 | skip)
               (first | simp only [add_plain] at hx486_0 | skip)
               (first | simp only [add_plain] at hx486_1 | skip)
               obtain ⟨ce28, hcl28, hM28, hcc28, hfr28⟩ := Kd.R_elem HO482.out z46 ((ji23) : Int) p28 q28
               obtain rfl := k46_openM hM28
               have hx28_0 : World.cell? _ ⟨go28, ((ji23) : Int).toNat * 2, none⟩ = some (.int .i64 ((rd_T46 y480 (ji23)).f0)) := hcc28 0 _ rfl
               have hx28_1 : World.cell? _ ⟨go28, ((ji23) : Int).toNat * 2 + 1, none⟩ = some (.int .i64 ((rd_T46 y480 (ji23)).f1)) := hcc28 1 _ rfl
               have hf28_0 : World.frozen? _ ⟨go28, ((ji23) : Int).toNat * 2, none⟩ = false := hfr28 0
               have hf28_1 : World.frozen? _ ⟨go28, ((ji23) : Int).toNat * 2 + 1, none⟩ = false := hfr28 1
               clear hcl28 hcc28 hfr28 hM28
               replace p28 := eq_true p28
               replace q28 := eq_true q28
               obtain ⟨ce83, hcl83, hM83, hcc83, hfr83⟩ := Kd.R_elem HO482.out z46 ((ji23) : Int) (od_) (by have h_ : ((ji23) : Int) < ((y480.length : Int) : Int) := od_; first | exact h_ | (have e_ := (Kd.R_reads' HO482.out).1; omega) | simpa using h_)
               obtain rfl := k46_openM hM83
               have HP83 := (Kd.R_seg HO482.out ((ji23) : Int) (od_) (by have h_ : ((ji23) : Int) < ((y480.length : Int) : Int) := od_; first | exact h_ | (have e_ := (Kd.R_reads' HO482.out).1; omega) | simpa using h_) (seg := [.int .i64 ji26]) (j := 0) hcl83 hcc83 (show 1 ≤ 2 from by decide) (x' := (⟨ji26, (rd_T46 y480 (ji23)).f1⟩ : S46)) (k46_mkM _ _ _ (⟨ji26, (rd_T46 y480 (ji23)).f1⟩ : S46) ) (fun _ hk => hk)).1
               rw [← Ny487.out] at HP83
               have HQ83 := Aside0.mk HP83
               clear hcl83 hcc83 hfr83 hM83 HP83
               have p29 : 0 ≤ ((ji23) : Int) := od_
               have q29 : ((ji23) : Int) < ((y480.length : Int) : Int) := od_
               replace p29 := eq_true p29
               replace q29 := eq_true q29
               obtain ⟨ce84, hcl84, hM84, hcc84, hfr84⟩ := Kd.R_elem HQ83.out z46 ((ji23) : Int) (od_) (by have h_ : ((ji23) : Int) < ((y480.length : Int) : Int) := od_; first | exact h_ | (have e_ := (Kd.R_reads' HO482.out).1; omega) | simpa using h_)
               obtain rfl := k46_openM hM84
               have HP84 := (Kd.R_seg HQ83.out ((ji23) : Int) (od_) (by have h_ : ((ji23) : Int) < ((y480.length : Int) : Int) := od_; first | exact h_ | (have e_ := (Kd.R_reads' HO482.out).1; omega) | simpa using h_) (seg := [.int .i64 ji27]) (j := 1) hcl84 hcc84 (show 2 ≤ 2 from by decide) (x' := (⟨(rd_T46 y487 (ji23)).f0, ji27⟩ : S46)) (k46_mkM _ _ _ (⟨(rd_T46 y487 (ji23)).f0, ji27⟩ : S46) ) (fun _ hk => hk)).1
               rw [← Ny488.out] at HP84
               have HQ84 := Aside0.mk HP84
               clear hcl84 hcc84 hfr84 hM84 HP84
               refine start_ (n := 28) (S := fun w' => w'.cell? ⟨go28, ((ji23)).toNat * 2, none⟩ = some (.int .i64 ((rd_T46 y480 (ji23)).f0)) ∧ w'.cell? ⟨go28, ((ji23)).toNat * 2 + 1, none⟩ = some (.int .i64 ((rd_T46 y480 (ji23)).f1)) ∧ w'.cell? ⟨go28, ((ji23)).toNat * 2, none⟩ = some (.int .i64 ((rd_T46 y480 (ji23)).f0)) ∧ w'.cell? ⟨go28, ((ji23)).toNat * 2 + 1, none⟩ = some (.int .i64 ((rd_T46 y480 (ji23)).f1))) (ds := [24, 27]) #[n_, n_, n_, n_, n_, n_, n_, n_, n_, n_, n_, n_, n_, n_, n_, n_, n_, n_, n_, n_, n_, n_, n_, n_, n_, n_, n_, n_] (by kernel_rfl) rfl rfl ⟨hx485_0, hx485_1, hx486_0, hx486_1⟩ (fun hHeld => ?_); refine with_tabW cohousinglaw30_LeakPlay.tab8 cohousinglaw30_LeakPlay.bits8 (fun HT_ HW_ => ?_)
               generalize w80.drew = w81 at HO476 HO482 HB GG28 HQ83 HQ84 hf28_0 hf28_1 hx28_0 hx28_1 hx485_0 hx485_1 hx486_0 hx486_1 hHeld ⊢
               refine pu_ 0 65 (w_ 28 1) rfl HT_ ?_
               refine pu_ 1 66 (w_ 28 3) rfl HT_ ?_
               refine pu_ 2 67 (w_ 28 7) rfl HT_ ?_
               refine pu_ 3 68 (w_ 28 15) rfl HT_ ?_
               refine pu_ 4 69 (w_ 28 31) rfl HT_ ?_
               refine pu_ 5 70 (w_ 28 63) rfl HT_ ?_
               refine pu_ 6 71 (w_ 28 127) rfl HT_ ?_
               refine pu_ 7 72 (w_ 28 255) rfl HT_ ?_
               refine pu_ 9 74 (w_ 28 767) rfl HT_ ?_
               refine pu_ 10 75 (w_ 28 1791) rfl HT_ ?_
               refine pu_ 13 78 (w_ 28 9983) rfl HT_ ?_
               refine pu_ 14 79 (w_ 28 26367) rfl HT_ ?_
               refine pu_ 15 80 (w_ 28 59135) rfl HT_ ?_
               refine pu_ 16 81 (w_ 28 124671) rfl HT_ ?_
               refine pu_ 18 83 (w_ 28 386815) rfl HT_ ?_
               refine pu_ 19 84 (w_ 28 911103) rfl HT_ ?_
               refine ta_ 8 73 (w_ 28 911359) rfl HT_ HW_ hHeld (by rintro w' ⟨s0, s1, s2, s3⟩; go_simp; with_reducible rfl) ?_
               refine pu_ 11 76 (w_ 28 913407) rfl HT_ ?_
               refine pu_ 12 77 (w_ 28 917503) rfl HT_ ?_
               refine ta_ 17 82 (w_ 28 1048575) rfl HT_ HW_ hHeld (by rintro w' ⟨s0, s1, s2, s3⟩; go_simp; with_reducible rfl) ?_
               refine pu_ 20 85 (w_ 28 2097151) rfl HT_ ?_
               refine pu_ 21 86 (w_ 28 4194303) rfl HT_ ?_
               refine pu_ 22 87 (w_ 28 8388607) rfl HT_ ?_
               refine pu_ 23 88 (w_ 28 16777215) rfl HT_ ?_
               refine last_ (i := 24) (N := none) (w_ 28 33554431) rfl rfl (one_of HT_.out (by kernel_rfl)) (by decide) (fun K hK => ?_)
               refine skip_ (w1 := ?_) (by rfl) rfl ?_ ?_
               rotate_left
               ·go_simp
                rfl
               refine hK.out _ _ ?_
               clear hK K
               refine pu_ 25 89 (w_ 28 67108863) rfl HT_ ?_
               refine pu_ 26 90 (w_ 28 134217727) rfl HT_ ?_
               refine last_ (i := 27) (N := none) (w_ 28 268435455) rfl rfl (one_of HT_.out (by kernel_rfl)) (by decide) (fun K hK => ?_)
               refine skip_ (w1 := ?_) (by rfl) rfl ?_ ?_
               rotate_left
               ·go_simp
                rfl
               refine hK.out _ _ ?_
               clear hK K
               refine done_ (done_of HT_.out (by kernel_rfl)) ?_
               try go_wp2_with (first | ((with_reducible refine gate_callee (f := 13) rfl ?_); refine gl_ (some 95) Try.func13 #[.slice A0 l0.length c0, .slice A1 l1.length c1, .int .i64 a2] ?_; (with_reducible refine (leak_Explain.calls _ _ l0 _ _ l1 a2 t489 false t491 _ ?side1 ?side2 ?side3 ?side4 A30.out).mono ?_); (case side1 => exact Kd.C_below HR0.out (by repeat (first | (with_reducible first | exact HB.out | apply below_alloc | apply pw_below_drewN | apply below_drew1 | refine below_set ?_ GB28.out | refine below_set ?_ GB28.out) | exact HB.out))); (case side2 => exact HC0.out); (case side3 => exact Kd.C_below HR1.out (by repeat (first | (with_reducible first | exact HB.out | apply below_alloc | apply pw_below_drewN | apply below_drew1 | refine below_set ?_ GB28.out | refine below_set ?_ GB28.out) | exact HB.out))); (case side4 => exact HC1.out); rintro e w85 ⟨v492, rfl, ho0, hb⟩; refine ⟨_, rfl, ?_⟩; have n0_ := Aside0.mk (Kd.R_below (by (with_reducible repeat (first | apply Kd.R_alloc | apply Kd.R_drewN | apply Kd.R_drew)); exact (Kd.R_mono (Kd.R_far (p := ⟨go28, ((ji23) : Int).toNat * 2 + 1, none⟩) (Kd.R_far (p := ⟨go28, ((ji23) : Int).toNat * 2, none⟩) (Kd.R_types HO476.out GG28.out (by decide)) (fun _ hk => hk.2) (.int .i64 ji26)) (fun _ hk => hk.2) (.int .i64 ji27)) (fun _ h_ => h_.1))) hb); have n1_ := Aside0.mk (Kd.R_below (rr_ HQ84) hb); have n2_ := Aside0.mk (Kd.R_lower ho0 (below_size (by repeat (first | (with_reducible first | exact HB.out | apply below_alloc | apply pw_below_drewN | apply below_drew1 | refine below_set ?_ GB28.out | refine below_set ?_ GB28.out) | exact HB.out)))); have n3_ := Aside0.mk (below_step (by repeat (first | (with_reducible first | exact HB.out | apply below_alloc | apply pw_below_drewN | apply below_drew1 | refine below_set ?_ GB28.out | refine below_set ?_ GB28.out) | exact HB.out)) hb); clear HO476; clear HO482; clear HB; have HO476 := n0_; have HO482 := n1_; have HO493 := n2_; have HB := n3_; clear n0_ n1_ n2_ n3_; (try clear hb); (try clear hb2); (try clear hk); (try clear hi); (try clear ho0)) | ((with_reducible refine gate_callee (f := 13) rfl ?_); refine goesL_ (some 103) rfl rfl Try.func13 (by kernel_rfl) rfl #[.slice (some ⟨go22, 0, none⟩) y484.length co78, .slice (some ⟨go28, 0, none⟩) y488.length co82, .int .i64 a2] rfl (by (try simp only [List.map_toArray, List.map_cons, List.map_nil]); first | done | (rw [show y484.length = y474.length from (Kd.R_reads' HO476.out).1.symm, show y488.length = y480.length from (Kd.R_reads' HO482.out).1.symm] <;> rfl) | rfl | (simp only [List.length_drop, List.length_take]; rfl)) ?_; (with_reducible refine (leak_Explain.calls _ _ y484 _ _ y488 a2 t494 t495 t496 _ ?side1 ?side2 ?side3 ?side4 A31.out).mono ?_); (case side1 => exact cc_ ((Kd.R_reads' HO476.out).2.2)); (case side2 => rw [show y484.length = y474.length from (Kd.R_reads' HO476.out).1.symm]; exact (Kd.R_reads' HO476.out).2.1); (case side3 => exact cc_ ((Kd.R_reads' HO482.out).2.2)); (case side4 => rw [show y488.length = y480.length from (Kd.R_reads' HO482.out).1.symm]; exact (Kd.R_reads' HO482.out).2.1); rintro e w86 ⟨v497, rfl, ho0, hb⟩; refine ⟨_, rfl, ?_⟩; have n0_ := Aside0.mk (Kd.R_below (rr_ HO476) hb); have n1_ := Aside0.mk (Kd.R_below (rr_ HO482) hb); have n2_ := Aside0.mk (Kd.R_elder' (rr_ HO493) (Kd.R_base ho0) hb); have n3_ := Aside0.mk (Kd.R_lower (Kd.R_new' ho0 (Kd.R_lt (rr_ HO493))) (below_size (bb_ HB))); have n4_ := Aside0.mk (below_step (bb_ HB) hb); clear HO476; clear HO482; clear HO493; clear HB; have HO476 := n0_; have HO482 := n1_; have HO493 := n2_; have HO498 := n3_; have HB := n4_; clear n0_ n1_ n2_ n3_ n4_; (try clear hb); (try clear hb2); (try clear hk); (try clear hi); (try clear ho0)))
               go_ret
               exact ⟨by first | rfl | (simp [errW_none, errW_some] <;> rfl) | (simp only [← hji18, ← hji21, ← hji23, ← hji26, ← hji27]; first | rfl | (simp [errW_none, errW_some] <;> rfl)) | (simp [*, errW_none, errW_some] <;> rfl), by repeat (first | (with_reducible first | exact HB.out | apply below_alloc | apply pw_below_drewN | apply below_drew1) | exact HB.out)⟩
             ·rw [if_neg c34] at H
              have c34b0 : (t496 == 0) = false := beq_eq_false_iff_ne.mpr c34
              have c34b1 : (t496 != 0) = true := bne_iff_ne.mpr c34
              obtain rfl := Option.some.inj H
              try go_wp2_with (first | ((with_reducible refine gate_dst (N := 36) rfl ?_); (try (refine gate_guard (by rfl) ?_; dsimp only)); refine Kd.R_lit k44 _ 44 ?hg (N := 36) ?hd (xs := ([] : List (S44))) (inner := []) (ok := fun _ => True) (okp := fun _ => True) ?hr ?hp (fun _ hk => hk) trivial (Below.refl _ _) (Nat.le_refl _) (by simp) ?_; (case hd => rfl); (case hg => rfl); (case hr => first | (go_simp; done) | (go_simp; rfl)); (case hp => exact (Reps.none _ _)); intro v472 w87 ho88 hb hg_ hnew_; clear hg_ hnew_; (first | rw [← Ny471.out] at ho88 | (simp only [Int.reduceToNat] at ho88; rw [← Ny471.out] at ho88)); have n0_ := Aside0.mk (Kd.R_lower ho88 (below_size (bb_ HB))); have n1_ := Aside0.mk (below_step (bb_ HB) hb); clear HB; have HO473 := n0_; have HB := n1_; clear n0_ n1_; clear hb ho88) | ((with_reducible refine gate_builtin (b := .append) (xs := #[.tmp 36, .tmp 37]) rfl ?_); (try (refine gate_guard (by rfl) ?_; dsimp only)); at_builtin; refine Kd.R_append_rows k44 (w0 := w) w.heap.size rfl (.tmp 36) (.tmp 37) 22 44 (.agg #[(.int .i64 0), (.int .i64 0), (.int .i64 0)]) 24 rfl Try.underlying22 info44 rfl (by decide) (by omega) v472 y471 l0 _ _ _ (fun _ => True) (fun _ => False) rfl rfl ?aO ?aR (fun _ _ h => h) (fun _ h => h.elim) ?aF ?aB ?aS ?aL ?_; (case aR => exact cc_ ((Kd.C_below HR0.out HB.out))); (case aB => exact (bb_ HB)); (case aF => exact (fun _ _ => trivial)); (case aO => exact (rr_ HO473)); (case aS => exact (below_size (bb_ HB))); (case aL => have := LMc15.out; omega); intro v475 w89 ho hb hg hat; rw [← Ny474.out] at ho; have n0_ := Aside0.mk (hb); have n1_ := Aside0.mk (ho); clear HB; clear HO473; have HB := n0_; have HO476 := n1_; clear n0_ n1_; clear ho hb hg hat) | ((with_reducible refine gate_dst (N := 39) rfl ?_); (try (refine gate_guard (by rfl) ?_; dsimp only)); refine Kd.R_lit k46 _ 46 ?hg (N := 39) ?hd (xs := ([] : List (S46))) (inner := []) (ok := fun _ => True) (okp := fun _ => True) ?hr ?hp (fun _ hk => hk) trivial (Below.refl _ _) (Nat.le_refl _) (by simp) ?_; (case hd => rfl); (case hg => rfl); (case hr => first | (go_simp; done) | (go_simp; rfl)); (case hp => exact (Reps.none _ _)); intro v478 w90 ho91 hb hg_ hnew_; clear hg_ hnew_; (first | rw [← Ny477.out] at ho91 | (simp only [Int.reduceToNat] at ho91; rw [← Ny477.out] at ho91)); have n0_ := Aside0.mk (Kd.R_below (rr_ HO476) hb); have n1_ := Aside0.mk (Kd.R_lower ho91 (below_size (bb_ HB))); have n2_ := Aside0.mk (below_step (bb_ HB) hb); clear HO476; clear HB; have HO476 := n0_; have HO479 := n1_; have HB := n2_; clear n0_ n1_ n2_; clear hb ho91) | ((with_reducible refine gate_builtin (b := .append) (xs := #[.tmp 39, .tmp 40]) rfl ?_); (try (refine gate_guard (by rfl) ?_; dsimp only)); at_builtin; refine Kd.R_append_rows k46 (w0 := w) w.heap.size rfl (.tmp 39) (.tmp 40) 23 46 (.agg #[(.int .i64 0), (.int .i64 0)]) 16 rfl Try.underlying23 info46 rfl (by decide) (by omega) v478 y477 l1 _ _ _ (fun _ => True) (fun _ => False) rfl rfl ?aO ?aR (fun _ _ h => h) (fun _ h => h.elim) ?aF ?aB ?aS ?aL ?_; (case aR => exact cc_ ((Kd.C_below HR1.out HB.out))); (case aB => exact (bb_ HB)); (case aF => exact (fun _ _ => trivial)); (case aO => exact (rr_ HO479)); (case aS => exact (below_size (bb_ HB))); (case aL => have := LMc16.out; omega); intro v481 w92 ho hb hg hat; rw [← Ny480.out] at ho; have n0_ := Aside0.mk (Kd.R_over' (rr_ HO476) (Kd.R_typed (rr_ HO479)) (by decide) hg); have n1_ := Aside0.mk (hb); have n2_ := Aside0.mk (ho); clear HO476; clear HB; clear HO479; have HO476 := n0_; have HB := n1_; have HO482 := n2_; clear n0_ n1_ n2_; clear ho hb hg hat))
              have n0_ := Aside0.mk (Kd.R_drew HO476.out)
              have n1_ := Aside0.mk (Kd.R_drew HO482.out)
              have n2_ := Aside0.mk (below_drew1 HB.out)
              clear HO476
              clear HO482
              clear HB
              have HO476 := n0_
              have HO482 := n1_
              have HB := n2_
              clear n0_ n1_ n2_
              refine start_ (n := 12) (S := fun w' => True) (ds := []) #[n_, n_, n_, n_, n_, n_, n_, n_, n_, n_, n_, n_] (by kernel_rfl) rfl rfl trivial (fun hHeld => ?_); refine with_tabW cohousinglaw30_LeakPlay.tab6 cohousinglaw30_LeakPlay.bits6 (fun HT_ HW_ => ?_)
              generalize w92.drew = w93 at HO476 HO482 HB hHeld ⊢
              refine pu_ 0 42 (w_ 12 1) rfl HT_ ?_
              refine pu_ 1 43 (w_ 12 3) rfl HT_ ?_
              refine pu_ 2 44 (w_ 12 7) rfl HT_ ?_
              refine pu_ 3 45 (w_ 12 15) rfl HT_ ?_
              refine pu_ 4 46 (w_ 12 31) rfl HT_ ?_
              refine pu_ 5 47 (w_ 12 63) rfl HT_ ?_
              refine pu_ 6 48 (w_ 12 127) rfl HT_ ?_
              refine pu_ 7 49 (w_ 12 255) rfl HT_ ?_
              refine pu_ 8 50 (w_ 12 511) rfl HT_ ?_
              refine pu_ 9 51 (w_ 12 1023) rfl HT_ ?_
              refine pu_ 10 16 (w_ 12 2047) rfl HT_ ?_
              refine pu_ 11 17 (w_ 12 4095) rfl HT_ ?_
              refine done_ (done_of HT_.out (by kernel_rfl)) ?_
              obtain ⟨Ao94, co94, eo94⟩ := Kd.R_slice HO476.out
              subst eo94
              have p483 : 0 ≤ ((ji18) : Int) := od_
              have q483 : (ji18) < (y474.length : Int) := od_
              obtain ⟨ad483, e483, hx483_0, hx483_1, hx483_2⟩ := at_T44 (Kd.R_reads' HO476.out).2.2 (ji18) p483 q483
              cases e483
              replace p483 := eq_true p483
              replace q483 := eq_true q483
              have p22 : 0 ≤ ((ji18) : Int) := od_
              have q22 : ((ji18) : Int) < ((y474.length : Int) : Int) := od_
              obtain ⟨go22, co22, eo22, gb22, gl22, cl22, HG22⟩ := Kd.R_form HO476.out (by omega)
              (first | cases eo22 | (injection eo22 with ea_ en_ ec_; (first | subst ea_ | (injection ea_ with ea_; subst ea_)); subst ec_; clear en_))
              have GB22 := Aside0.mk gb22
              have GG22 := Aside0.mk HG22
              clear gb22 gl22 HG22
              (first | simp only [add_plain] at hx483_0 | skip)
              (first | simp only [add_plain] at hx483_1 | skip)
              (first | simp only [add_plain] at hx483_2 | skip)
              obtain ⟨ce22, hcl22, hM22, hcc22, hfr22⟩ := Kd.R_elem HO476.out z44 ((ji18) : Int) p22 q22
              obtain rfl := k44_openM hM22
              have hx22_0 : w93.cell? ⟨go22, ((ji18) : Int).toNat * 3, none⟩ = some (.int .i64 ((rd_T44 y474 (ji18)).f0)) := hcc22 0 _ rfl
              have hx22_1 : w93.cell? ⟨go22, ((ji18) : Int).toNat * 3 + 1, none⟩ = some (.int .i64 ((rd_T44 y474 (ji18)).f1)) := hcc22 1 _ rfl
              have hx22_2 : w93.cell? ⟨go22, ((ji18) : Int).toNat * 3 + 2, none⟩ = some (.int .i64 ((rd_T44 y474 (ji18)).f2)) := hcc22 2 _ rfl
              have hf22_0 : w93.frozen? ⟨go22, ((ji18) : Int).toNat * 3, none⟩ = false := hfr22 0
              have hf22_1 : w93.frozen? ⟨go22, ((ji18) : Int).toNat * 3 + 1, none⟩ = false := hfr22 1
              have hf22_2 : w93.frozen? ⟨go22, ((ji18) : Int).toNat * 3 + 2, none⟩ = false := hfr22 2
              clear hcl22 hcc22 hfr22 hM22
              replace p22 := eq_true p22
              replace q22 := eq_true q22
              have HX95 := Aside0.mk (show Kd.R k44 44 w93 w.heap.size (fun _ => True) (.slice (some ⟨go22, 0, none⟩) y474.length co94) y474 from (rr_ HO476))
              obtain ⟨ce95, hcl95, hM95, hcc95, hfr95⟩ := Kd.R_elem HX95.out z44 ((ji18) : Int) (od_) (by have h_ : ((ji18) : Int) < ((y474.length : Int) : Int) := od_; first | exact h_ | (have e_ := (Kd.R_reads' HO476.out).1; omega) | simpa using h_)
              obtain rfl := k44_openM hM95
              have HP95 := Kd.R_seg HX95.out ((ji18) : Int) (od_) (by have h_ : ((ji18) : Int) < ((y474.length : Int) : Int) := od_; first | exact h_ | (have e_ := (Kd.R_reads' HO476.out).1; omega) | simpa using h_) (seg := [.int .i64 ji21]) (j := 2) hcl95 hcc95 (show 3 ≤ 3 from by decide) (x' := (⟨(rd_T44 y474 (ji18)).f0, (rd_T44 y474 (ji18)).f1, ji21⟩ : S44)) (k44_mkM _ _ _ (⟨(rd_T44 y474 (ji18)).f0, (rd_T44 y474 (ji18)).f1, ji21⟩ : S44) ) (fun _ hk => hk)
              have hx95_2 := hcc95 2 _ rfl
              (try simp only [show (k44).sz = 3 from rfl, Nat.mul_one, Nat.add_zero] at hx95_2)
              have hf95_2 := hfr95 2
              (try simp only [show (k44).sz = 3 from rfl, Nat.mul_one, Nat.add_zero] at hf95_2)
              clear hcl95 hcc95 hfr95 hM95
              try go_wp2_with (first | ((with_reducible refine gate_store (t := 3) (p := 64) rfl ?_); refine store_event (t := 3) (p := 64) (v := ?vo_w96) (w1 := (w93.setCell ⟨go22, ((ji18) : Int).toNat * 3 + 2, none⟩ (.int .i64 ji21))) ?hg ?ho ?hn ?hr ?_; (case ho => rfl); (case hg => rfl); (case hn => rfl); (case hr => first | (go_simp; done) | (go_simp; rfl)); intro w96 hw; have hg : w93.grownBy w96 (some go22) := (by rw [hw]; exact HP95.2); have hp_ : Kd.R k44 44 w96 w.heap.size (fun _ => True) (.slice (some ⟨go22, 0, none⟩) y474.length co94) y484 := (by rw [hw, Ny484.out]; exact HP95.1); clear HP95; have n0_ := Aside0.mk (hp_); have n1_ := Aside0.mk (Kd.R_over' (v := (.slice (some ⟨go22, 0, none⟩) y474.length co94)) (rr_ HO482) (Kd.R_typed HO476.out) (by decide) hg); have n2_ := Aside0.mk ((by rw [hw]; exact below_set (HB.out) GB22.out : Below w.heap.size w w96)); clear HO476; clear HO482; clear HB; have HO476 := n0_; have HO482 := n1_; have HB := n2_; clear n0_ n1_ n2_; clear hg hw hp_))
              have n0_ := Aside0.mk (Kd.R_drew HO476.out)
              have n1_ := Aside0.mk (Kd.R_drew HO482.out)
              have n2_ := Aside0.mk (below_drew1 HB.out)
              clear HO476
              clear HO482
              clear HB
              have HO476 := n0_
              have HO482 := n1_
              have HB := n2_
              clear n0_ n1_ n2_
              obtain ⟨Ao98, co98, eo98⟩ := Kd.R_slice HO482.out
              (first | subst eo98 | (injection eo98 with f1_ f2_ f3_; have f4_ := f1_.symm; have f5_ := f3_.symm; clear f1_ f2_ f3_; subst f4_; subst f5_))
              have p485 : 0 ≤ ((ji23) : Int) := od_
              have q485 : (ji23) < (y480.length : Int) := od_
              obtain ⟨ad485, e485, hx485_0, hx485_1⟩ := at_T46 (Kd.R_reads' HO482.out).2.2 (ji23) p485 q485
              cases e485
              replace p485 := eq_true p485
              replace q485 := eq_true q485
              have p486 : 0 ≤ ((ji23) : Int) := od_
              have q486 : (ji23) < (y480.length : Int) := od_
              obtain ⟨ad486, e486, hx486_0, hx486_1⟩ := at_T46 (Kd.R_reads' HO482.out).2.2 (ji23) p486 q486
              obtain rfl : ad485 = ad486 := (by injection e486)
              replace p486 := eq_true p486
              replace q486 := eq_true q486
              have p28 : 0 ≤ ((ji23) : Int) := od_
              have q28 : ((ji23) : Int) < ((y480.length : Int) : Int) := od_
              obtain ⟨go28, co28, eo28, gb28, gl28, cl28, HG28⟩ := Kd.R_form HO482.out (by omega)
              (first | cases eo28 | (injection eo28 with ea_ en_ ec_; (first | subst ea_ | (injection ea_ with ea_; subst ea_)); subst ec_; clear en_))
              have GB28 := Aside0.mk gb28
              have GG28 := Aside0.mk HG28
              clear gb28 gl28 HG28
              (first | simp only [add_plain] at hx485_0 | skip)
              (first | simp only [add_plain] at hx485_1 | skip)
              (first | simp only [add_plain] at hx486_0 | skip)
              (first | simp only [add_plain] at hx486_1 | skip)
              obtain ⟨ce28, hcl28, hM28, hcc28, hfr28⟩ := Kd.R_elem HO482.out z46 ((ji23) : Int) p28 q28
              obtain rfl := k46_openM hM28
              have hx28_0 : World.cell? _ ⟨go28, ((ji23) : Int).toNat * 2, none⟩ = some (.int .i64 ((rd_T46 y480 (ji23)).f0)) := hcc28 0 _ rfl
              have hx28_1 : World.cell? _ ⟨go28, ((ji23) : Int).toNat * 2 + 1, none⟩ = some (.int .i64 ((rd_T46 y480 (ji23)).f1)) := hcc28 1 _ rfl
              have hf28_0 : World.frozen? _ ⟨go28, ((ji23) : Int).toNat * 2, none⟩ = false := hfr28 0
              have hf28_1 : World.frozen? _ ⟨go28, ((ji23) : Int).toNat * 2 + 1, none⟩ = false := hfr28 1
              clear hcl28 hcc28 hfr28 hM28
              replace p28 := eq_true p28
              replace q28 := eq_true q28
              obtain ⟨ce99, hcl99, hM99, hcc99, hfr99⟩ := Kd.R_elem HO482.out z46 ((ji23) : Int) (od_) (by have h_ : ((ji23) : Int) < ((y480.length : Int) : Int) := od_; first | exact h_ | (have e_ := (Kd.R_reads' HO482.out).1; omega) | simpa using h_)
              obtain rfl := k46_openM hM99
              have HP99 := (Kd.R_seg HO482.out ((ji23) : Int) (od_) (by have h_ : ((ji23) : Int) < ((y480.length : Int) : Int) := od_; first | exact h_ | (have e_ := (Kd.R_reads' HO482.out).1; omega) | simpa using h_) (seg := [.int .i64 ji26]) (j := 0) hcl99 hcc99 (show 1 ≤ 2 from by decide) (x' := (⟨ji26, (rd_T46 y480 (ji23)).f1⟩ : S46)) (k46_mkM _ _ _ (⟨ji26, (rd_T46 y480 (ji23)).f1⟩ : S46) ) (fun _ hk => hk)).1
              rw [← Ny487.out] at HP99
              have HQ99 := Aside0.mk HP99
              clear hcl99 hcc99 hfr99 hM99 HP99
              have p29 : 0 ≤ ((ji23) : Int) := od_
              have q29 : ((ji23) : Int) < ((y480.length : Int) : Int) := od_
              replace p29 := eq_true p29
              replace q29 := eq_true q29
              obtain ⟨ce100, hcl100, hM100, hcc100, hfr100⟩ := Kd.R_elem HQ99.out z46 ((ji23) : Int) (od_) (by have h_ : ((ji23) : Int) < ((y480.length : Int) : Int) := od_; first | exact h_ | (have e_ := (Kd.R_reads' HO482.out).1; omega) | simpa using h_)
              obtain rfl := k46_openM hM100
              have HP100 := (Kd.R_seg HQ99.out ((ji23) : Int) (od_) (by have h_ : ((ji23) : Int) < ((y480.length : Int) : Int) := od_; first | exact h_ | (have e_ := (Kd.R_reads' HO482.out).1; omega) | simpa using h_) (seg := [.int .i64 ji27]) (j := 1) hcl100 hcc100 (show 2 ≤ 2 from by decide) (x' := (⟨(rd_T46 y487 (ji23)).f0, ji27⟩ : S46)) (k46_mkM _ _ _ (⟨(rd_T46 y487 (ji23)).f0, ji27⟩ : S46) ) (fun _ hk => hk)).1
              rw [← Ny488.out] at HP100
              have HQ100 := Aside0.mk HP100
              clear hcl100 hcc100 hfr100 hM100 HP100
              refine start_ (n := 28) (S := fun w' => w'.cell? ⟨go28, ((ji23)).toNat * 2, none⟩ = some (.int .i64 ((rd_T46 y480 (ji23)).f0)) ∧ w'.cell? ⟨go28, ((ji23)).toNat * 2 + 1, none⟩ = some (.int .i64 ((rd_T46 y480 (ji23)).f1)) ∧ w'.cell? ⟨go28, ((ji23)).toNat * 2, none⟩ = some (.int .i64 ((rd_T46 y480 (ji23)).f0)) ∧ w'.cell? ⟨go28, ((ji23)).toNat * 2 + 1, none⟩ = some (.int .i64 ((rd_T46 y480 (ji23)).f1))) (ds := [24, 27]) #[n_, n_, n_, n_, n_, n_, n_, n_, n_, n_, n_, n_, n_, n_, n_, n_, n_, n_, n_, n_, n_, n_, n_, n_, n_, n_, n_, n_] (by kernel_rfl) rfl rfl ⟨hx485_0, hx485_1, hx486_0, hx486_1⟩ (fun hHeld => ?_); refine with_tabW cohousinglaw30_LeakPlay.tab8 cohousinglaw30_LeakPlay.bits8 (fun HT_ HW_ => ?_)
              generalize w96.drew = w97 at HO476 HO482 HB GG28 HQ100 HQ99 hf28_0 hf28_1 hx28_0 hx28_1 hx485_0 hx485_1 hx486_0 hx486_1 hHeld ⊢
              refine pu_ 0 65 (w_ 28 1) rfl HT_ ?_
              refine pu_ 1 66 (w_ 28 3) rfl HT_ ?_
              refine pu_ 2 67 (w_ 28 7) rfl HT_ ?_
              refine pu_ 3 68 (w_ 28 15) rfl HT_ ?_
              refine pu_ 4 69 (w_ 28 31) rfl HT_ ?_
              refine pu_ 5 70 (w_ 28 63) rfl HT_ ?_
              refine pu_ 6 71 (w_ 28 127) rfl HT_ ?_
              refine pu_ 7 72 (w_ 28 255) rfl HT_ ?_
              refine pu_ 9 74 (w_ 28 767) rfl HT_ ?_
              refine pu_ 10 75 (w_ 28 1791) rfl HT_ ?_
              refine pu_ 13 78 (w_ 28 9983) rfl HT_ ?_
              refine pu_ 14 79 (w_ 28 26367) rfl HT_ ?_
              refine pu_ 15 80 (w_ 28 59135) rfl HT_ ?_
              refine pu_ 16 81 (w_ 28 124671) rfl HT_ ?_
              refine pu_ 18 83 (w_ 28 386815) rfl HT_ ?_
              refine pu_ 19 84 (w_ 28 911103) rfl HT_ ?_
              refine ta_ 8 73 (w_ 28 911359) rfl HT_ HW_ hHeld (by rintro w' ⟨s0, s1, s2, s3⟩; go_simp; with_reducible rfl) ?_
              refine pu_ 11 76 (w_ 28 913407) rfl HT_ ?_
              refine pu_ 12 77 (w_ 28 917503) rfl HT_ ?_
              refine ta_ 17 82 (w_ 28 1048575) rfl HT_ HW_ hHeld (by rintro w' ⟨s0, s1, s2, s3⟩; go_simp; with_reducible rfl) ?_
              refine pu_ 20 85 (w_ 28 2097151) rfl HT_ ?_
              refine pu_ 21 86 (w_ 28 4194303) rfl HT_ ?_
              refine pu_ 22 87 (w_ 28 8388607) rfl HT_ ?_
              refine pu_ 23 88 (w_ 28 16777215) rfl HT_ ?_
              refine last_ (i := 24) (N := none) (w_ 28 33554431) rfl rfl (one_of HT_.out (by kernel_rfl)) (by decide) (fun K hK => ?_)
              refine skip_ (w1 := ?_) (by rfl) rfl ?_ ?_
              rotate_left
              ·go_simp
               rfl
              refine hK.out _ _ ?_
              clear hK K
              refine pu_ 25 89 (w_ 28 67108863) rfl HT_ ?_
              refine pu_ 26 90 (w_ 28 134217727) rfl HT_ ?_
              refine last_ (i := 27) (N := none) (w_ 28 268435455) rfl rfl (one_of HT_.out (by kernel_rfl)) (by decide) (fun K hK => ?_)
              refine skip_ (w1 := ?_) (by rfl) rfl ?_ ?_
              rotate_left
              ·go_simp
               rfl
              refine hK.out _ _ ?_
              clear hK K
              refine done_ (done_of HT_.out (by kernel_rfl)) ?_
              try go_wp2_with (first | ((with_reducible refine gate_callee (f := 13) rfl ?_); refine gl_ (some 95) Try.func13 #[.slice A0 l0.length c0, .slice A1 l1.length c1, .int .i64 a2] ?_; (with_reducible refine (leak_Explain.calls _ _ l0 _ _ l1 a2 t489 t490 t491 _ ?side1 ?side2 ?side3 ?side4 A30.out).mono ?_); (case side1 => exact Kd.C_below HR0.out (by repeat (first | (with_reducible first | exact HB.out | apply below_alloc | apply pw_below_drewN | apply below_drew1 | refine below_set ?_ GB28.out | refine below_set ?_ GB28.out) | exact HB.out))); (case side2 => exact HC0.out); (case side3 => exact Kd.C_below HR1.out (by repeat (first | (with_reducible first | exact HB.out | apply below_alloc | apply pw_below_drewN | apply below_drew1 | refine below_set ?_ GB28.out | refine below_set ?_ GB28.out) | exact HB.out))); (case side4 => exact HC1.out); rintro e w101 ⟨v492, rfl, ho0, hb⟩; refine ⟨_, rfl, ?_⟩; have n0_ := Aside0.mk (Kd.R_below (by (with_reducible repeat (first | apply Kd.R_alloc | apply Kd.R_drewN | apply Kd.R_drew)); exact (Kd.R_mono (Kd.R_far (p := ⟨go28, ((ji23) : Int).toNat * 2 + 1, none⟩) (Kd.R_far (p := ⟨go28, ((ji23) : Int).toNat * 2, none⟩) (Kd.R_types HO476.out GG28.out (by decide)) (fun _ hk => hk.2) (.int .i64 ji26)) (fun _ hk => hk.2) (.int .i64 ji27)) (fun _ h_ => h_.1))) hb); have n1_ := Aside0.mk (Kd.R_below (rr_ HQ100) hb); have n2_ := Aside0.mk (Kd.R_lower ho0 (below_size (by repeat (first | (with_reducible first | exact HB.out | apply below_alloc | apply pw_below_drewN | apply below_drew1 | refine below_set ?_ GB28.out | refine below_set ?_ GB28.out) | exact HB.out)))); have n3_ := Aside0.mk (below_step (by repeat (first | (with_reducible first | exact HB.out | apply below_alloc | apply pw_below_drewN | apply below_drew1 | refine below_set ?_ GB28.out | refine below_set ?_ GB28.out) | exact HB.out)) hb); clear HO476; clear HO482; clear HB; have HO476 := n0_; have HO482 := n1_; have HO493 := n2_; have HB := n3_; clear n0_ n1_ n2_ n3_; (try clear hb); (try clear hb2); (try clear hk); (try clear hi); (try clear ho0)) | ((with_reducible refine gate_callee (f := 13) rfl ?_); refine goesL_ (some 103) rfl rfl Try.func13 (by kernel_rfl) rfl #[.slice (some ⟨go22, 0, none⟩) y484.length co94, .slice (some ⟨go28, 0, none⟩) y488.length co98, .int .i64 a2] rfl (by (try simp only [List.map_toArray, List.map_cons, List.map_nil]); first | done | (rw [show y484.length = y474.length from (Kd.R_reads' HO476.out).1.symm, show y488.length = y480.length from (Kd.R_reads' HO482.out).1.symm] <;> rfl) | rfl | (simp only [List.length_drop, List.length_take]; rfl)) ?_; (with_reducible refine (leak_Explain.calls _ _ y484 _ _ y488 a2 t494 t495 t496 _ ?side1 ?side2 ?side3 ?side4 A31.out).mono ?_); (case side1 => exact cc_ ((Kd.R_reads' HO476.out).2.2)); (case side2 => rw [show y484.length = y474.length from (Kd.R_reads' HO476.out).1.symm]; exact (Kd.R_reads' HO476.out).2.1); (case side3 => exact cc_ ((Kd.R_reads' HO482.out).2.2)); (case side4 => rw [show y488.length = y480.length from (Kd.R_reads' HO482.out).1.symm]; exact (Kd.R_reads' HO482.out).2.1); rintro e w102 ⟨v497, rfl, ho0, hb⟩; refine ⟨_, rfl, ?_⟩; have n0_ := Aside0.mk (Kd.R_below (rr_ HO476) hb); have n1_ := Aside0.mk (Kd.R_below (rr_ HO482) hb); have n2_ := Aside0.mk (Kd.R_elder' (rr_ HO493) (Kd.R_base ho0) hb); have n3_ := Aside0.mk (Kd.R_lower (Kd.R_new' ho0 (Kd.R_lt (rr_ HO493))) (below_size (bb_ HB))); have n4_ := Aside0.mk (below_step (bb_ HB) hb); clear HO476; clear HO482; clear HO493; clear HB; have HO476 := n0_; have HO482 := n1_; have HO493 := n2_; have HO498 := n3_; have HB := n4_; clear n0_ n1_ n2_ n3_ n4_; (try clear hb); (try clear hb2); (try clear hk); (try clear hi); (try clear ho0)))
              go_ret
              exact ⟨by first | rfl | (simp [errW_none, errW_some] <;> rfl) | (simp only [← hji18, ← hji21, ← hji23, ← hji26, ← hji27]; first | rfl | (simp [errW_none, errW_some] <;> rfl)) | (simp [*, errW_none, errW_some] <;> rfl), by repeat (first | (with_reducible first | exact HB.out | apply below_alloc | apply pw_below_drewN | apply below_drew1) | exact HB.out)⟩
            ·rw [if_neg c33] at H
             have c33b0 : (t491 == 0) = false := beq_eq_false_iff_ne.mpr c33
             have c33b1 : (t491 != 0) = true := bne_iff_ne.mpr c33
             obtain rfl := Option.some.inj H
             try go_wp2_with (first | ((with_reducible refine gate_dst (N := 36) rfl ?_); (try (refine gate_guard (by rfl) ?_; dsimp only)); refine Kd.R_lit k44 _ 44 ?hg (N := 36) ?hd (xs := ([] : List (S44))) (inner := []) (ok := fun _ => True) (okp := fun _ => True) ?hr ?hp (fun _ hk => hk) trivial (Below.refl _ _) (Nat.le_refl _) (by simp) ?_; (case hd => rfl); (case hg => rfl); (case hr => first | (go_simp; done) | (go_simp; rfl)); (case hp => exact (Reps.none _ _)); intro v472 w103 ho104 hb hg_ hnew_; clear hg_ hnew_; (first | rw [← Ny471.out] at ho104 | (simp only [Int.reduceToNat] at ho104; rw [← Ny471.out] at ho104)); have n0_ := Aside0.mk (Kd.R_lower ho104 (below_size (bb_ HB))); have n1_ := Aside0.mk (below_step (bb_ HB) hb); clear HB; have HO473 := n0_; have HB := n1_; clear n0_ n1_; clear hb ho104) | ((with_reducible refine gate_builtin (b := .append) (xs := #[.tmp 36, .tmp 37]) rfl ?_); (try (refine gate_guard (by rfl) ?_; dsimp only)); at_builtin; refine Kd.R_append_rows k44 (w0 := w) w.heap.size rfl (.tmp 36) (.tmp 37) 22 44 (.agg #[(.int .i64 0), (.int .i64 0), (.int .i64 0)]) 24 rfl Try.underlying22 info44 rfl (by decide) (by omega) v472 y471 l0 _ _ _ (fun _ => True) (fun _ => False) rfl rfl ?aO ?aR (fun _ _ h => h) (fun _ h => h.elim) ?aF ?aB ?aS ?aL ?_; (case aR => exact cc_ ((Kd.C_below HR0.out HB.out))); (case aB => exact (bb_ HB)); (case aF => exact (fun _ _ => trivial)); (case aO => exact (rr_ HO473)); (case aS => exact (below_size (bb_ HB))); (case aL => have := LMc15.out; omega); intro v475 w105 ho hb hg hat; rw [← Ny474.out] at ho; have n0_ := Aside0.mk (hb); have n1_ := Aside0.mk (ho); clear HB; clear HO473; have HB := n0_; have HO476 := n1_; clear n0_ n1_; clear ho hb hg hat) | ((with_reducible refine gate_dst (N := 39) rfl ?_); (try (refine gate_guard (by rfl) ?_; dsimp only)); refine Kd.R_lit k46 _ 46 ?hg (N := 39) ?hd (xs := ([] : List (S46))) (inner := []) (ok := fun _ => True) (okp := fun _ => True) ?hr ?hp (fun _ hk => hk) trivial (Below.refl _ _) (Nat.le_refl _) (by simp) ?_; (case hd => rfl); (case hg => rfl); (case hr => first | (go_simp; done) | (go_simp; rfl)); (case hp => exact (Reps.none _ _)); intro v478 w106 ho107 hb hg_ hnew_; clear hg_ hnew_; (first | rw [← Ny477.out] at ho107 | (simp only [Int.reduceToNat] at ho107; rw [← Ny477.out] at ho107)); have n0_ := Aside0.mk (Kd.R_below (rr_ HO476) hb); have n1_ := Aside0.mk (Kd.R_lower ho107 (below_size (bb_ HB))); have n2_ := Aside0.mk (below_step (bb_ HB) hb); clear HO476; clear HB; have HO476 := n0_; have HO479 := n1_; have HB := n2_; clear n0_ n1_ n2_; clear hb ho107) | ((with_reducible refine gate_builtin (b := .append) (xs := #[.tmp 39, .tmp 40]) rfl ?_); (try (refine gate_guard (by rfl) ?_; dsimp only)); at_builtin; refine Kd.R_append_rows k46 (w0 := w) w.heap.size rfl (.tmp 39) (.tmp 40) 23 46 (.agg #[(.int .i64 0), (.int .i64 0)]) 16 rfl Try.underlying23 info46 rfl (by decide) (by omega) v478 y477 l1 _ _ _ (fun _ => True) (fun _ => False) rfl rfl ?aO ?aR (fun _ _ h => h) (fun _ h => h.elim) ?aF ?aB ?aS ?aL ?_; (case aR => exact cc_ ((Kd.C_below HR1.out HB.out))); (case aB => exact (bb_ HB)); (case aF => exact (fun _ _ => trivial)); (case aO => exact (rr_ HO479)); (case aS => exact (below_size (bb_ HB))); (case aL => have := LMc16.out; omega); intro v481 w108 ho hb hg hat; rw [← Ny480.out] at ho; have n0_ := Aside0.mk (Kd.R_over' (rr_ HO476) (Kd.R_typed (rr_ HO479)) (by decide) hg); have n1_ := Aside0.mk (hb); have n2_ := Aside0.mk (ho); clear HO476; clear HB; clear HO479; have HO476 := n0_; have HB := n1_; have HO482 := n2_; clear n0_ n1_ n2_; clear ho hb hg hat))
             have n0_ := Aside0.mk (Kd.R_drew HO476.out)
             have n1_ := Aside0.mk (Kd.R_drew HO482.out)
             have n2_ := Aside0.mk (below_drew1 HB.out)
             clear HO476
             clear HO482
             clear HB
             have HO476 := n0_
             have HO482 := n1_
             have HB := n2_
             clear n0_ n1_ n2_
             refine start_ (n := 12) (S := fun w' => True) (ds := []) #[n_, n_, n_, n_, n_, n_, n_, n_, n_, n_, n_, n_] (by kernel_rfl) rfl rfl trivial (fun hHeld => ?_); refine with_tabW cohousinglaw30_LeakPlay.tab6 cohousinglaw30_LeakPlay.bits6 (fun HT_ HW_ => ?_)
             generalize w108.drew = w109 at HO476 HO482 HB hHeld ⊢
             refine pu_ 0 42 (w_ 12 1) rfl HT_ ?_
             refine pu_ 1 43 (w_ 12 3) rfl HT_ ?_
             refine pu_ 2 44 (w_ 12 7) rfl HT_ ?_
             refine pu_ 3 45 (w_ 12 15) rfl HT_ ?_
             refine pu_ 4 46 (w_ 12 31) rfl HT_ ?_
             refine pu_ 5 47 (w_ 12 63) rfl HT_ ?_
             refine pu_ 6 48 (w_ 12 127) rfl HT_ ?_
             refine pu_ 7 49 (w_ 12 255) rfl HT_ ?_
             refine pu_ 8 50 (w_ 12 511) rfl HT_ ?_
             refine pu_ 9 51 (w_ 12 1023) rfl HT_ ?_
             refine pu_ 10 16 (w_ 12 2047) rfl HT_ ?_
             refine pu_ 11 17 (w_ 12 4095) rfl HT_ ?_
             refine done_ (done_of HT_.out (by kernel_rfl)) ?_
             obtain ⟨Ao110, co110, eo110⟩ := Kd.R_slice HO476.out
             subst eo110
             have p483 : 0 ≤ ((ji18) : Int) := od_
             have q483 : (ji18) < (y474.length : Int) := od_
             obtain ⟨ad483, e483, hx483_0, hx483_1, hx483_2⟩ := at_T44 (Kd.R_reads' HO476.out).2.2 (ji18) p483 q483
             cases e483
             replace p483 := eq_true p483
             replace q483 := eq_true q483
             have p22 : 0 ≤ ((ji18) : Int) := od_
             have q22 : ((ji18) : Int) < ((y474.length : Int) : Int) := od_
             obtain ⟨go22, co22, eo22, gb22, gl22, cl22, HG22⟩ := Kd.R_form HO476.out (by omega)
             (first | cases eo22 | (injection eo22 with ea_ en_ ec_; (first | subst ea_ | (injection ea_ with ea_; subst ea_)); subst ec_; clear en_))
             have GB22 := Aside0.mk gb22
             have GG22 := Aside0.mk HG22
             clear gb22 gl22 HG22
             (first | simp only [add_plain] at hx483_0 | skip)
             (first | simp only [add_plain] at hx483_1 | skip)
             (first | simp only [add_plain] at hx483_2 | skip)
             obtain ⟨ce22, hcl22, hM22, hcc22, hfr22⟩ := Kd.R_elem HO476.out z44 ((ji18) : Int) p22 q22
             obtain rfl := k44_openM hM22
             have hx22_0 : w109.cell? ⟨go22, ((ji18) : Int).toNat * 3, none⟩ = some (.int .i64 ((rd_T44 y474 (ji18)).f0)) := hcc22 0 _ rfl
             have hx22_1 : w109.cell? ⟨go22, ((ji18) : Int).toNat * 3 + 1, none⟩ = some (.int .i64 ((rd_T44 y474 (ji18)).f1)) := hcc22 1 _ rfl
             have hx22_2 : w109.cell? ⟨go22, ((ji18) : Int).toNat * 3 + 2, none⟩ = some (.int .i64 ((rd_T44 y474 (ji18)).f2)) := hcc22 2 _ rfl
             have hf22_0 : w109.frozen? ⟨go22, ((ji18) : Int).toNat * 3, none⟩ = false := hfr22 0
             have hf22_1 : w109.frozen? ⟨go22, ((ji18) : Int).toNat * 3 + 1, none⟩ = false := hfr22 1
             have hf22_2 : w109.frozen? ⟨go22, ((ji18) : Int).toNat * 3 + 2, none⟩ = false := hfr22 2
             clear hcl22 hcc22 hfr22 hM22
             replace p22 := eq_true p22
             replace q22 := eq_true q22
             have HX111 := Aside0.mk (show Kd.R k44 44 w109 w.heap.size (fun _ => True) (.slice (some ⟨go22, 0, none⟩) y474.length co110) y474 from (rr_ HO476))
             obtain ⟨ce111, hcl111, hM111, hcc111, hfr111⟩ := Kd.R_elem HX111.out z44 ((ji18) : Int) (od_) (by have h_ : ((ji18) : Int) < ((y474.length : Int) : Int) := od_; first | exact h_ | (have e_ := (Kd.R_reads' HO476.out).1; omega) | simpa using h_)
             obtain rfl := k44_openM hM111
             have HP111 := Kd.R_seg HX111.out ((ji18) : Int) (od_) (by have h_ : ((ji18) : Int) < ((y474.length : Int) : Int) := od_; first | exact h_ | (have e_ := (Kd.R_reads' HO476.out).1; omega) | simpa using h_) (seg := [.int .i64 ji21]) (j := 2) hcl111 hcc111 (show 3 ≤ 3 from by decide) (x' := (⟨(rd_T44 y474 (ji18)).f0, (rd_T44 y474 (ji18)).f1, ji21⟩ : S44)) (k44_mkM _ _ _ (⟨(rd_T44 y474 (ji18)).f0, (rd_T44 y474 (ji18)).f1, ji21⟩ : S44) ) (fun _ hk => hk)
             have hx111_2 := hcc111 2 _ rfl
             (try simp only [show (k44).sz = 3 from rfl, Nat.mul_one, Nat.add_zero] at hx111_2)
             have hf111_2 := hfr111 2
             (try simp only [show (k44).sz = 3 from rfl, Nat.mul_one, Nat.add_zero] at hf111_2)
             clear hcl111 hcc111 hfr111 hM111
             try go_wp2_with (first | ((with_reducible refine gate_store (t := 3) (p := 64) rfl ?_); refine store_event (t := 3) (p := 64) (v := ?vo_w112) (w1 := (w109.setCell ⟨go22, ((ji18) : Int).toNat * 3 + 2, none⟩ (.int .i64 ji21))) ?hg ?ho ?hn ?hr ?_; (case ho => rfl); (case hg => rfl); (case hn => rfl); (case hr => first | (go_simp; done) | (go_simp; rfl)); intro w112 hw; have hg : w109.grownBy w112 (some go22) := (by rw [hw]; exact HP111.2); have hp_ : Kd.R k44 44 w112 w.heap.size (fun _ => True) (.slice (some ⟨go22, 0, none⟩) y474.length co110) y484 := (by rw [hw, Ny484.out]; exact HP111.1); clear HP111; have n0_ := Aside0.mk (hp_); have n1_ := Aside0.mk (Kd.R_over' (v := (.slice (some ⟨go22, 0, none⟩) y474.length co110)) (rr_ HO482) (Kd.R_typed HO476.out) (by decide) hg); have n2_ := Aside0.mk ((by rw [hw]; exact below_set (HB.out) GB22.out : Below w.heap.size w w112)); clear HO476; clear HO482; clear HB; have HO476 := n0_; have HO482 := n1_; have HB := n2_; clear n0_ n1_ n2_; clear hg hw hp_))
             have n0_ := Aside0.mk (Kd.R_drew HO476.out)
             have n1_ := Aside0.mk (Kd.R_drew HO482.out)
             have n2_ := Aside0.mk (below_drew1 HB.out)
             clear HO476
             clear HO482
             clear HB
             have HO476 := n0_
             have HO482 := n1_
             have HB := n2_
             clear n0_ n1_ n2_
             obtain ⟨Ao114, co114, eo114⟩ := Kd.R_slice HO482.out
             (first | subst eo114 | (injection eo114 with f1_ f2_ f3_; have f4_ := f1_.symm; have f5_ := f3_.symm; clear f1_ f2_ f3_; subst f4_; subst f5_))
             have p485 : 0 ≤ ((ji23) : Int) := od_
             have q485 : (ji23) < (y480.length : Int) := od_
             obtain ⟨ad485, e485, hx485_0, hx485_1⟩ := at_T46 (Kd.R_reads' HO482.out).2.2 (ji23) p485 q485
             cases e485
             replace p485 := eq_true p485
             replace q485 := eq_true q485
             have p486 : 0 ≤ ((ji23) : Int) := od_
             have q486 : (ji23) < (y480.length : Int) := od_
             obtain ⟨ad486, e486, hx486_0, hx486_1⟩ := at_T46 (Kd.R_reads' HO482.out).2.2 (ji23) p486 q486
             obtain rfl : ad485 = ad486 := (by injection e486)
             replace p486 := eq_true p486
             replace q486 := eq_true q486
             have p28 : 0 ≤ ((ji23) : Int) := od_
             have q28 : ((ji23) : Int) < ((y480.length : Int) : Int) := od_
             obtain ⟨go28, co28, eo28, gb28, gl28, cl28, HG28⟩ := Kd.R_form HO482.out (by omega)
             (first | cases eo28 | (injection eo28 with ea_ en_ ec_; (first | subst ea_ | (injection ea_ with ea_; subst ea_)); subst ec_; clear en_))
             have GB28 := Aside0.mk gb28
             have GG28 := Aside0.mk HG28
             clear gb28 gl28 HG28
             (first | simp only [add_plain] at hx485_0 | skip)
             (first | simp only [add_plain] at hx485_1 | skip)
             (first | simp only [add_plain] at hx486_0 | skip)
             (first | simp only [add_plain] at hx486_1 | skip)
             obtain ⟨ce28, hcl28, hM28, hcc28, hfr28⟩ := Kd.R_elem HO482.out z46 ((ji23) : Int) p28 q28
             obtain rfl := k46_openM hM28
             have hx28_0 : World.cell? _ ⟨go28, ((ji23) : Int).toNat * 2, none⟩ = some (.int .i64 ((rd_T46 y480 (ji23)).f0)) := hcc28 0 _ rfl
             have hx28_1 : World.cell? _ ⟨go28, ((ji23) : Int).toNat * 2 + 1, none⟩ = some (.int .i64 ((rd_T46 y480 (ji23)).f1)) := hcc28 1 _ rfl
             have hf28_0 : World.frozen? _ ⟨go28, ((ji23) : Int).toNat * 2, none⟩ = false := hfr28 0
             have hf28_1 : World.frozen? _ ⟨go28, ((ji23) : Int).toNat * 2 + 1, none⟩ = false := hfr28 1
             clear hcl28 hcc28 hfr28 hM28
             replace p28 := eq_true p28
             replace q28 := eq_true q28
             obtain ⟨ce115, hcl115, hM115, hcc115, hfr115⟩ := Kd.R_elem HO482.out z46 ((ji23) : Int) (od_) (by have h_ : ((ji23) : Int) < ((y480.length : Int) : Int) := od_; first | exact h_ | (have e_ := (Kd.R_reads' HO482.out).1; omega) | simpa using h_)
             obtain rfl := k46_openM hM115
             have HP115 := (Kd.R_seg HO482.out ((ji23) : Int) (od_) (by have h_ : ((ji23) : Int) < ((y480.length : Int) : Int) := od_; first | exact h_ | (have e_ := (Kd.R_reads' HO482.out).1; omega) | simpa using h_) (seg := [.int .i64 ji26]) (j := 0) hcl115 hcc115 (show 1 ≤ 2 from by decide) (x' := (⟨ji26, (rd_T46 y480 (ji23)).f1⟩ : S46)) (k46_mkM _ _ _ (⟨ji26, (rd_T46 y480 (ji23)).f1⟩ : S46) ) (fun _ hk => hk)).1
             rw [← Ny487.out] at HP115
             have HQ115 := Aside0.mk HP115
             clear hcl115 hcc115 hfr115 hM115 HP115
             have p29 : 0 ≤ ((ji23) : Int) := od_
             have q29 : ((ji23) : Int) < ((y480.length : Int) : Int) := od_
             replace p29 := eq_true p29
             replace q29 := eq_true q29
             obtain ⟨ce116, hcl116, hM116, hcc116, hfr116⟩ := Kd.R_elem HQ115.out z46 ((ji23) : Int) (od_) (by have h_ : ((ji23) : Int) < ((y480.length : Int) : Int) := od_; first | exact h_ | (have e_ := (Kd.R_reads' HO482.out).1; omega) | simpa using h_)
             obtain rfl := k46_openM hM116
             have HP116 := (Kd.R_seg HQ115.out ((ji23) : Int) (od_) (by have h_ : ((ji23) : Int) < ((y480.length : Int) : Int) := od_; first | exact h_ | (have e_ := (Kd.R_reads' HO482.out).1; omega) | simpa using h_) (seg := [.int .i64 ji27]) (j := 1) hcl116 hcc116 (show 2 ≤ 2 from by decide) (x' := (⟨(rd_T46 y487 (ji23)).f0, ji27⟩ : S46)) (k46_mkM _ _ _ (⟨(rd_T46 y487 (ji23)).f0, ji27⟩ : S46) ) (fun _ hk => hk)).1
             rw [← Ny488.out] at HP116
             have HQ116 := Aside0.mk HP116
             clear hcl116 hcc116 hfr116 hM116 HP116
             refine start_ (n := 28) (S := fun w' => w'.cell? ⟨go28, ((ji23)).toNat * 2, none⟩ = some (.int .i64 ((rd_T46 y480 (ji23)).f0)) ∧ w'.cell? ⟨go28, ((ji23)).toNat * 2 + 1, none⟩ = some (.int .i64 ((rd_T46 y480 (ji23)).f1)) ∧ w'.cell? ⟨go28, ((ji23)).toNat * 2, none⟩ = some (.int .i64 ((rd_T46 y480 (ji23)).f0)) ∧ w'.cell? ⟨go28, ((ji23)).toNat * 2 + 1, none⟩ = some (.int .i64 ((rd_T46 y480 (ji23)).f1))) (ds := [24, 27]) #[n_, n_, n_, n_, n_, n_, n_, n_, n_, n_, n_, n_, n_, n_, n_, n_, n_, n_, n_, n_, n_, n_, n_, n_, n_, n_, n_, n_] (by kernel_rfl) rfl rfl ⟨hx485_0, hx485_1, hx486_0, hx486_1⟩ (fun hHeld => ?_); refine with_tabW cohousinglaw30_LeakPlay.tab8 cohousinglaw30_LeakPlay.bits8 (fun HT_ HW_ => ?_)
             generalize w112.drew = w113 at HO476 HO482 HB GG28 HQ115 HQ116 hf28_0 hf28_1 hx28_0 hx28_1 hx485_0 hx485_1 hx486_0 hx486_1 hHeld ⊢
             refine pu_ 0 65 (w_ 28 1) rfl HT_ ?_
             refine pu_ 1 66 (w_ 28 3) rfl HT_ ?_
             refine pu_ 2 67 (w_ 28 7) rfl HT_ ?_
             refine pu_ 3 68 (w_ 28 15) rfl HT_ ?_
             refine pu_ 4 69 (w_ 28 31) rfl HT_ ?_
             refine pu_ 5 70 (w_ 28 63) rfl HT_ ?_
             refine pu_ 6 71 (w_ 28 127) rfl HT_ ?_
             refine pu_ 7 72 (w_ 28 255) rfl HT_ ?_
             refine pu_ 9 74 (w_ 28 767) rfl HT_ ?_
             refine pu_ 10 75 (w_ 28 1791) rfl HT_ ?_
             refine pu_ 13 78 (w_ 28 9983) rfl HT_ ?_
             refine pu_ 14 79 (w_ 28 26367) rfl HT_ ?_
             refine pu_ 15 80 (w_ 28 59135) rfl HT_ ?_
             refine pu_ 16 81 (w_ 28 124671) rfl HT_ ?_
             refine pu_ 18 83 (w_ 28 386815) rfl HT_ ?_
             refine pu_ 19 84 (w_ 28 911103) rfl HT_ ?_
             refine ta_ 8 73 (w_ 28 911359) rfl HT_ HW_ hHeld (by rintro w' ⟨s0, s1, s2, s3⟩; go_simp; with_reducible rfl) ?_
             refine pu_ 11 76 (w_ 28 913407) rfl HT_ ?_
             refine pu_ 12 77 (w_ 28 917503) rfl HT_ ?_
             refine ta_ 17 82 (w_ 28 1048575) rfl HT_ HW_ hHeld (by rintro w' ⟨s0, s1, s2, s3⟩; go_simp; with_reducible rfl) ?_
             refine pu_ 20 85 (w_ 28 2097151) rfl HT_ ?_
             refine pu_ 21 86 (w_ 28 4194303) rfl HT_ ?_
             refine pu_ 22 87 (w_ 28 8388607) rfl HT_ ?_
             refine pu_ 23 88 (w_ 28 16777215) rfl HT_ ?_
             refine last_ (i := 24) (N := none) (w_ 28 33554431) rfl rfl (one_of HT_.out (by kernel_rfl)) (by decide) (fun K hK => ?_)
             refine skip_ (w1 := ?_) (by rfl) rfl ?_ ?_
             rotate_left
             ·go_simp
              rfl
             refine hK.out _ _ ?_
             clear hK K
             refine pu_ 25 89 (w_ 28 67108863) rfl HT_ ?_
             refine pu_ 26 90 (w_ 28 134217727) rfl HT_ ?_
             refine last_ (i := 27) (N := none) (w_ 28 268435455) rfl rfl (one_of HT_.out (by kernel_rfl)) (by decide) (fun K hK => ?_)
             refine skip_ (w1 := ?_) (by rfl) rfl ?_ ?_
             rotate_left
             ·go_simp
              rfl
             refine hK.out _ _ ?_
             clear hK K
             refine done_ (done_of HT_.out (by kernel_rfl)) ?_
             try go_wp2_with (first | ((with_reducible refine gate_callee (f := 13) rfl ?_); refine gl_ (some 95) Try.func13 #[.slice A0 l0.length c0, .slice A1 l1.length c1, .int .i64 a2] ?_; (with_reducible refine (leak_Explain.calls _ _ l0 _ _ l1 a2 t489 t490 t491 _ ?side1 ?side2 ?side3 ?side4 A30.out).mono ?_); (case side1 => exact Kd.C_below HR0.out (by repeat (first | (with_reducible first | exact HB.out | apply below_alloc | apply pw_below_drewN | apply below_drew1 | refine below_set ?_ GB28.out | refine below_set ?_ GB28.out) | exact HB.out))); (case side2 => exact HC0.out); (case side3 => exact Kd.C_below HR1.out (by repeat (first | (with_reducible first | exact HB.out | apply below_alloc | apply pw_below_drewN | apply below_drew1 | refine below_set ?_ GB28.out | refine below_set ?_ GB28.out) | exact HB.out))); (case side4 => exact HC1.out); rintro e w117 ⟨v492, rfl, ho0, hb⟩; refine ⟨_, rfl, ?_⟩; have n0_ := Aside0.mk (Kd.R_below (by (with_reducible repeat (first | apply Kd.R_alloc | apply Kd.R_drewN | apply Kd.R_drew)); exact (Kd.R_mono (Kd.R_far (p := ⟨go28, ((ji23) : Int).toNat * 2 + 1, none⟩) (Kd.R_far (p := ⟨go28, ((ji23) : Int).toNat * 2, none⟩) (Kd.R_types HO476.out GG28.out (by decide)) (fun _ hk => hk.2) (.int .i64 ji26)) (fun _ hk => hk.2) (.int .i64 ji27)) (fun _ h_ => h_.1))) hb); have n1_ := Aside0.mk (Kd.R_below (rr_ HQ116) hb); have n2_ := Aside0.mk (Kd.R_lower ho0 (below_size (by repeat (first | (with_reducible first | exact HB.out | apply below_alloc | apply pw_below_drewN | apply below_drew1 | refine below_set ?_ GB28.out | refine below_set ?_ GB28.out) | exact HB.out)))); have n3_ := Aside0.mk (below_step (by repeat (first | (with_reducible first | exact HB.out | apply below_alloc | apply pw_below_drewN | apply below_drew1 | refine below_set ?_ GB28.out | refine below_set ?_ GB28.out) | exact HB.out)) hb); clear HO476; clear HO482; clear HB; have HO476 := n0_; have HO482 := n1_; have HO493 := n2_; have HB := n3_; clear n0_ n1_ n2_ n3_; (try clear hb); (try clear hb2); (try clear hk); (try clear hi); (try clear ho0)) | ((with_reducible refine gate_callee (f := 13) rfl ?_); refine goesL_ (some 103) rfl rfl Try.func13 (by kernel_rfl) rfl #[.slice (some ⟨go22, 0, none⟩) y484.length co110, .slice (some ⟨go28, 0, none⟩) y488.length co114, .int .i64 a2] rfl (by (try simp only [List.map_toArray, List.map_cons, List.map_nil]); first | done | (rw [show y484.length = y474.length from (Kd.R_reads' HO476.out).1.symm, show y488.length = y480.length from (Kd.R_reads' HO482.out).1.symm] <;> rfl) | rfl | (simp only [List.length_drop, List.length_take]; rfl)) ?_; (with_reducible refine (leak_Explain.calls _ _ y484 _ _ y488 a2 t494 t495 t496 _ ?side1 ?side2 ?side3 ?side4 A31.out).mono ?_); (case side1 => exact cc_ ((Kd.R_reads' HO476.out).2.2)); (case side2 => rw [show y484.length = y474.length from (Kd.R_reads' HO476.out).1.symm]; exact (Kd.R_reads' HO476.out).2.1); (case side3 => exact cc_ ((Kd.R_reads' HO482.out).2.2)); (case side4 => rw [show y488.length = y480.length from (Kd.R_reads' HO482.out).1.symm]; exact (Kd.R_reads' HO482.out).2.1); rintro e w118 ⟨v497, rfl, ho0, hb⟩; refine ⟨_, rfl, ?_⟩; have n0_ := Aside0.mk (Kd.R_below (rr_ HO476) hb); have n1_ := Aside0.mk (Kd.R_below (rr_ HO482) hb); have n2_ := Aside0.mk (Kd.R_elder' (rr_ HO493) (Kd.R_base ho0) hb); have n3_ := Aside0.mk (Kd.R_lower (Kd.R_new' ho0 (Kd.R_lt (rr_ HO493))) (below_size (bb_ HB))); have n4_ := Aside0.mk (below_step (bb_ HB) hb); clear HO476; clear HO482; clear HO493; clear HB; have HO476 := n0_; have HO482 := n1_; have HO493 := n2_; have HO498 := n3_; have HB := n4_; clear n0_ n1_ n2_ n3_ n4_; (try clear hb); (try clear hb2); (try clear hk); (try clear hi); (try clear ho0)))
             go_ret
             exact ⟨by first | rfl | (simp [errW_none, errW_some] <;> rfl) | (simp only [← hji18, ← hji21, ← hji23, ← hji26, ← hji27]; first | rfl | (simp [errW_none, errW_some] <;> rfl)) | (simp [*, errW_none, errW_some] <;> rfl), by repeat (first | (with_reducible first | exact HB.out | apply below_alloc | apply pw_below_drewN | apply below_drew1) | exact HB.out)⟩
           ·replace c32 := Bool.eq_false_iff.mpr c32
            subst c32
            have H1 : (some false) = some r := by rw [if_neg (show ¬ (false = true) by decide)] at H; exact H
            clear H
            have H := H1
            clear H1
            obtain rfl := Option.some.inj H
            try go_wp2_with (first | ((with_reducible refine gate_dst (N := 36) rfl ?_); (try (refine gate_guard (by rfl) ?_; dsimp only)); refine Kd.R_lit k44 _ 44 ?hg (N := 36) ?hd (xs := ([] : List (S44))) (inner := []) (ok := fun _ => True) (okp := fun _ => True) ?hr ?hp (fun _ hk => hk) trivial (Below.refl _ _) (Nat.le_refl _) (by simp) ?_; (case hd => rfl); (case hg => rfl); (case hr => first | (go_simp; done) | (go_simp; rfl)); (case hp => exact (Reps.none _ _)); intro v472 w119 ho120 hb hg_ hnew_; clear hg_ hnew_; (first | rw [← Ny471.out] at ho120 | (simp only [Int.reduceToNat] at ho120; rw [← Ny471.out] at ho120)); have n0_ := Aside0.mk (Kd.R_lower ho120 (below_size (bb_ HB))); have n1_ := Aside0.mk (below_step (bb_ HB) hb); clear HB; have HO473 := n0_; have HB := n1_; clear n0_ n1_; clear hb ho120) | ((with_reducible refine gate_builtin (b := .append) (xs := #[.tmp 36, .tmp 37]) rfl ?_); (try (refine gate_guard (by rfl) ?_; dsimp only)); at_builtin; refine Kd.R_append_rows k44 (w0 := w) w.heap.size rfl (.tmp 36) (.tmp 37) 22 44 (.agg #[(.int .i64 0), (.int .i64 0), (.int .i64 0)]) 24 rfl Try.underlying22 info44 rfl (by decide) (by omega) v472 y471 l0 _ _ _ (fun _ => True) (fun _ => False) rfl rfl ?aO ?aR (fun _ _ h => h) (fun _ h => h.elim) ?aF ?aB ?aS ?aL ?_; (case aR => exact cc_ ((Kd.C_below HR0.out HB.out))); (case aB => exact (bb_ HB)); (case aF => exact (fun _ _ => trivial)); (case aO => exact (rr_ HO473)); (case aS => exact (below_size (bb_ HB))); (case aL => have := LMc15.out; omega); intro v475 w121 ho hb hg hat; rw [← Ny474.out] at ho; have n0_ := Aside0.mk (hb); have n1_ := Aside0.mk (ho); clear HB; clear HO473; have HB := n0_; have HO476 := n1_; clear n0_ n1_; clear ho hb hg hat) | ((with_reducible refine gate_dst (N := 39) rfl ?_); (try (refine gate_guard (by rfl) ?_; dsimp only)); refine Kd.R_lit k46 _ 46 ?hg (N := 39) ?hd (xs := ([] : List (S46))) (inner := []) (ok := fun _ => True) (okp := fun _ => True) ?hr ?hp (fun _ hk => hk) trivial (Below.refl _ _) (Nat.le_refl _) (by simp) ?_; (case hd => rfl); (case hg => rfl); (case hr => first | (go_simp; done) | (go_simp; rfl)); (case hp => exact (Reps.none _ _)); intro v478 w122 ho123 hb hg_ hnew_; clear hg_ hnew_; (first | rw [← Ny477.out] at ho123 | (simp only [Int.reduceToNat] at ho123; rw [← Ny477.out] at ho123)); have n0_ := Aside0.mk (Kd.R_below (rr_ HO476) hb); have n1_ := Aside0.mk (Kd.R_lower ho123 (below_size (bb_ HB))); have n2_ := Aside0.mk (below_step (bb_ HB) hb); clear HO476; clear HB; have HO476 := n0_; have HO479 := n1_; have HB := n2_; clear n0_ n1_ n2_; clear hb ho123) | ((with_reducible refine gate_builtin (b := .append) (xs := #[.tmp 39, .tmp 40]) rfl ?_); (try (refine gate_guard (by rfl) ?_; dsimp only)); at_builtin; refine Kd.R_append_rows k46 (w0 := w) w.heap.size rfl (.tmp 39) (.tmp 40) 23 46 (.agg #[(.int .i64 0), (.int .i64 0)]) 16 rfl Try.underlying23 info46 rfl (by decide) (by omega) v478 y477 l1 _ _ _ (fun _ => True) (fun _ => False) rfl rfl ?aO ?aR (fun _ _ h => h) (fun _ h => h.elim) ?aF ?aB ?aS ?aL ?_; (case aR => exact cc_ ((Kd.C_below HR1.out HB.out))); (case aB => exact (bb_ HB)); (case aF => exact (fun _ _ => trivial)); (case aO => exact (rr_ HO479)); (case aS => exact (below_size (bb_ HB))); (case aL => have := LMc16.out; omega); intro v481 w124 ho hb hg hat; rw [← Ny480.out] at ho; have n0_ := Aside0.mk (Kd.R_over' (rr_ HO476) (Kd.R_typed (rr_ HO479)) (by decide) hg); have n1_ := Aside0.mk (hb); have n2_ := Aside0.mk (ho); clear HO476; clear HB; clear HO479; have HO476 := n0_; have HB := n1_; have HO482 := n2_; clear n0_ n1_ n2_; clear ho hb hg hat))
            have n0_ := Aside0.mk (Kd.R_drew HO476.out)
            have n1_ := Aside0.mk (Kd.R_drew HO482.out)
            have n2_ := Aside0.mk (below_drew1 HB.out)
            clear HO476
            clear HO482
            clear HB
            have HO476 := n0_
            have HO482 := n1_
            have HB := n2_
            clear n0_ n1_ n2_
            refine start_ (n := 12) (S := fun w' => True) (ds := []) #[n_, n_, n_, n_, n_, n_, n_, n_, n_, n_, n_, n_] (by kernel_rfl) rfl rfl trivial (fun hHeld => ?_); refine with_tabW cohousinglaw30_LeakPlay.tab6 cohousinglaw30_LeakPlay.bits6 (fun HT_ HW_ => ?_)
            generalize w124.drew = w125 at HO476 HO482 HB hHeld ⊢
            refine pu_ 0 42 (w_ 12 1) rfl HT_ ?_
            refine pu_ 1 43 (w_ 12 3) rfl HT_ ?_
            refine pu_ 2 44 (w_ 12 7) rfl HT_ ?_
            refine pu_ 3 45 (w_ 12 15) rfl HT_ ?_
            refine pu_ 4 46 (w_ 12 31) rfl HT_ ?_
            refine pu_ 5 47 (w_ 12 63) rfl HT_ ?_
            refine pu_ 6 48 (w_ 12 127) rfl HT_ ?_
            refine pu_ 7 49 (w_ 12 255) rfl HT_ ?_
            refine pu_ 8 50 (w_ 12 511) rfl HT_ ?_
            refine pu_ 9 51 (w_ 12 1023) rfl HT_ ?_
            refine pu_ 10 16 (w_ 12 2047) rfl HT_ ?_
            refine pu_ 11 17 (w_ 12 4095) rfl HT_ ?_
            refine done_ (done_of HT_.out (by kernel_rfl)) ?_
            obtain ⟨Ao126, co126, eo126⟩ := Kd.R_slice HO476.out
            subst eo126
            have p483 : 0 ≤ ((ji18) : Int) := od_
            have q483 : (ji18) < (y474.length : Int) := od_
            obtain ⟨ad483, e483, hx483_0, hx483_1, hx483_2⟩ := at_T44 (Kd.R_reads' HO476.out).2.2 (ji18) p483 q483
            cases e483
            replace p483 := eq_true p483
            replace q483 := eq_true q483
            have p22 : 0 ≤ ((ji18) : Int) := od_
            have q22 : ((ji18) : Int) < ((y474.length : Int) : Int) := od_
            obtain ⟨go22, co22, eo22, gb22, gl22, cl22, HG22⟩ := Kd.R_form HO476.out (by omega)
            (first | cases eo22 | (injection eo22 with ea_ en_ ec_; (first | subst ea_ | (injection ea_ with ea_; subst ea_)); subst ec_; clear en_))
            have GB22 := Aside0.mk gb22
            have GG22 := Aside0.mk HG22
            clear gb22 gl22 HG22
            (first | simp only [add_plain] at hx483_0 | skip)
            (first | simp only [add_plain] at hx483_1 | skip)
            (first | simp only [add_plain] at hx483_2 | skip)
            obtain ⟨ce22, hcl22, hM22, hcc22, hfr22⟩ := Kd.R_elem HO476.out z44 ((ji18) : Int) p22 q22
            obtain rfl := k44_openM hM22
            have hx22_0 : w125.cell? ⟨go22, ((ji18) : Int).toNat * 3, none⟩ = some (.int .i64 ((rd_T44 y474 (ji18)).f0)) := hcc22 0 _ rfl
            have hx22_1 : w125.cell? ⟨go22, ((ji18) : Int).toNat * 3 + 1, none⟩ = some (.int .i64 ((rd_T44 y474 (ji18)).f1)) := hcc22 1 _ rfl
            have hx22_2 : w125.cell? ⟨go22, ((ji18) : Int).toNat * 3 + 2, none⟩ = some (.int .i64 ((rd_T44 y474 (ji18)).f2)) := hcc22 2 _ rfl
            have hf22_0 : w125.frozen? ⟨go22, ((ji18) : Int).toNat * 3, none⟩ = false := hfr22 0
            have hf22_1 : w125.frozen? ⟨go22, ((ji18) : Int).toNat * 3 + 1, none⟩ = false := hfr22 1
            have hf22_2 : w125.frozen? ⟨go22, ((ji18) : Int).toNat * 3 + 2, none⟩ = false := hfr22 2
            clear hcl22 hcc22 hfr22 hM22
            replace p22 := eq_true p22
            replace q22 := eq_true q22
            have HX127 := Aside0.mk (show Kd.R k44 44 w125 w.heap.size (fun _ => True) (.slice (some ⟨go22, 0, none⟩) y474.length co126) y474 from (rr_ HO476))
            obtain ⟨ce127, hcl127, hM127, hcc127, hfr127⟩ := Kd.R_elem HX127.out z44 ((ji18) : Int) (od_) (by have h_ : ((ji18) : Int) < ((y474.length : Int) : Int) := od_; first | exact h_ | (have e_ := (Kd.R_reads' HO476.out).1; omega) | simpa using h_)
            obtain rfl := k44_openM hM127
            have HP127 := Kd.R_seg HX127.out ((ji18) : Int) (od_) (by have h_ : ((ji18) : Int) < ((y474.length : Int) : Int) := od_; first | exact h_ | (have e_ := (Kd.R_reads' HO476.out).1; omega) | simpa using h_) (seg := [.int .i64 ji21]) (j := 2) hcl127 hcc127 (show 3 ≤ 3 from by decide) (x' := (⟨(rd_T44 y474 (ji18)).f0, (rd_T44 y474 (ji18)).f1, ji21⟩ : S44)) (k44_mkM _ _ _ (⟨(rd_T44 y474 (ji18)).f0, (rd_T44 y474 (ji18)).f1, ji21⟩ : S44) ) (fun _ hk => hk)
            have hx127_2 := hcc127 2 _ rfl
            (try simp only [show (k44).sz = 3 from rfl, Nat.mul_one, Nat.add_zero] at hx127_2)
            have hf127_2 := hfr127 2
            (try simp only [show (k44).sz = 3 from rfl, Nat.mul_one, Nat.add_zero] at hf127_2)
            clear hcl127 hcc127 hfr127 hM127
            try go_wp2_with (first | ((with_reducible refine gate_store (t := 3) (p := 64) rfl ?_); refine store_event (t := 3) (p := 64) (v := ?vo_w128) (w1 := (w125.setCell ⟨go22, ((ji18) : Int).toNat * 3 + 2, none⟩ (.int .i64 ji21))) ?hg ?ho ?hn ?hr ?_; (case ho => rfl); (case hg => rfl); (case hn => rfl); (case hr => first | (go_simp; done) | (go_simp; rfl)); intro w128 hw; have hg : w125.grownBy w128 (some go22) := (by rw [hw]; exact HP127.2); have hp_ : Kd.R k44 44 w128 w.heap.size (fun _ => True) (.slice (some ⟨go22, 0, none⟩) y474.length co126) y484 := (by rw [hw, Ny484.out]; exact HP127.1); clear HP127; have n0_ := Aside0.mk (hp_); have n1_ := Aside0.mk (Kd.R_over' (v := (.slice (some ⟨go22, 0, none⟩) y474.length co126)) (rr_ HO482) (Kd.R_typed HO476.out) (by decide) hg); have n2_ := Aside0.mk ((by rw [hw]; exact below_set (HB.out) GB22.out : Below w.heap.size w w128)); clear HO476; clear HO482; clear HB; have HO476 := n0_; have HO482 := n1_; have HB := n2_; clear n0_ n1_ n2_; clear hg hw hp_))
            have n0_ := Aside0.mk (Kd.R_drew HO476.out)
            have n1_ := Aside0.mk (Kd.R_drew HO482.out)
            have n2_ := Aside0.mk (below_drew1 HB.out)
            clear HO476
            clear HO482
            clear HB
            have HO476 := n0_
            have HO482 := n1_
            have HB := n2_
            clear n0_ n1_ n2_
            obtain ⟨Ao130, co130, eo130⟩ := Kd.R_slice HO482.out
            (first | subst eo130 | (injection eo130 with f1_ f2_ f3_; have f4_ := f1_.symm; have f5_ := f3_.symm; clear f1_ f2_ f3_; subst f4_; subst f5_))
            have p485 : 0 ≤ ((ji23) : Int) := od_
            have q485 : (ji23) < (y480.length : Int) := od_
            obtain ⟨ad485, e485, hx485_0, hx485_1⟩ := at_T46 (Kd.R_reads' HO482.out).2.2 (ji23) p485 q485
            cases e485
            replace p485 := eq_true p485
            replace q485 := eq_true q485
            have p486 : 0 ≤ ((ji23) : Int) := od_
            have q486 : (ji23) < (y480.length : Int) := od_
            obtain ⟨ad486, e486, hx486_0, hx486_1⟩ := at_T46 (Kd.R_reads' HO482.out).2.2 (ji23) p486 q486
            obtain rfl : ad485 = ad486 := (by injection e486)
            replace p486 := eq_true p486
            replace q486 := eq_true q486
            have p28 : 0 ≤ ((ji23) : Int) := od_
            have q28 : ((ji23) : Int) < ((y480.length : Int) : Int) := od_
            obtain ⟨go28, co28, eo28, gb28, gl28, cl28, HG28⟩ := Kd.R_form HO482.out (by omega)
            (first | cases eo28 | (injection eo28 with ea_ en_ ec_; (first | subst ea_ | (injection ea_ with ea_; subst ea_)); subst ec_; clear en_))
            have GB28 := Aside0.mk gb28
            have GG28 := Aside0.mk HG28
            clear gb28 gl28 HG28
            (first | simp only [add_plain] at hx485_0 | skip)
            (first | simp only [add_plain] at hx485_1 | skip)
            (first | simp only [add_plain] at hx486_0 | skip)
            (first | simp only [add_plain] at hx486_1 | skip)
            obtain ⟨ce28, hcl28, hM28, hcc28, hfr28⟩ := Kd.R_elem HO482.out z46 ((ji23) : Int) p28 q28
            obtain rfl := k46_openM hM28
            have hx28_0 : World.cell? _ ⟨go28, ((ji23) : Int).toNat * 2, none⟩ = some (.int .i64 ((rd_T46 y480 (ji23)).f0)) := hcc28 0 _ rfl
            have hx28_1 : World.cell? _ ⟨go28, ((ji23) : Int).toNat * 2 + 1, none⟩ = some (.int .i64 ((rd_T46 y480 (ji23)).f1)) := hcc28 1 _ rfl
            have hf28_0 : World.frozen? _ ⟨go28, ((ji23) : Int).toNat * 2, none⟩ = false := hfr28 0
            have hf28_1 : World.frozen? _ ⟨go28, ((ji23) : Int).toNat * 2 + 1, none⟩ = false := hfr28 1
            clear hcl28 hcc28 hfr28 hM28
            replace p28 := eq_true p28
            replace q28 := eq_true q28
            obtain ⟨ce131, hcl131, hM131, hcc131, hfr131⟩ := Kd.R_elem HO482.out z46 ((ji23) : Int) (od_) (by have h_ : ((ji23) : Int) < ((y480.length : Int) : Int) := od_; first | exact h_ | (have e_ := (Kd.R_reads' HO482.out).1; omega) | simpa using h_)
            obtain rfl := k46_openM hM131
            have HP131 := (Kd.R_seg HO482.out ((ji23) : Int) (od_) (by have h_ : ((ji23) : Int) < ((y480.length : Int) : Int) := od_; first | exact h_ | (have e_ := (Kd.R_reads' HO482.out).1; omega) | simpa using h_) (seg := [.int .i64 ji26]) (j := 0) hcl131 hcc131 (show 1 ≤ 2 from by decide) (x' := (⟨ji26, (rd_T46 y480 (ji23)).f1⟩ : S46)) (k46_mkM _ _ _ (⟨ji26, (rd_T46 y480 (ji23)).f1⟩ : S46) ) (fun _ hk => hk)).1
            rw [← Ny487.out] at HP131
            have HQ131 := Aside0.mk HP131
            clear hcl131 hcc131 hfr131 hM131 HP131
            have p29 : 0 ≤ ((ji23) : Int) := od_
            have q29 : ((ji23) : Int) < ((y480.length : Int) : Int) := od_
            replace p29 := eq_true p29
            replace q29 := eq_true q29
            obtain ⟨ce132, hcl132, hM132, hcc132, hfr132⟩ := Kd.R_elem HQ131.out z46 ((ji23) : Int) (od_) (by have h_ : ((ji23) : Int) < ((y480.length : Int) : Int) := od_; first | exact h_ | (have e_ := (Kd.R_reads' HO482.out).1; omega) | simpa using h_)
            obtain rfl := k46_openM hM132
            have HP132 := (Kd.R_seg HQ131.out ((ji23) : Int) (od_) (by have h_ : ((ji23) : Int) < ((y480.length : Int) : Int) := od_; first | exact h_ | (have e_ := (Kd.R_reads' HO482.out).1; omega) | simpa using h_) (seg := [.int .i64 ji27]) (j := 1) hcl132 hcc132 (show 2 ≤ 2 from by decide) (x' := (⟨(rd_T46 y487 (ji23)).f0, ji27⟩ : S46)) (k46_mkM _ _ _ (⟨(rd_T46 y487 (ji23)).f0, ji27⟩ : S46) ) (fun _ hk => hk)).1
            rw [← Ny488.out] at HP132
            have HQ132 := Aside0.mk HP132
            clear hcl132 hcc132 hfr132 hM132 HP132
            refine start_ (n := 28) (S := fun w' => w'.cell? ⟨go28, ((ji23)).toNat * 2, none⟩ = some (.int .i64 ((rd_T46 y480 (ji23)).f0)) ∧ w'.cell? ⟨go28, ((ji23)).toNat * 2 + 1, none⟩ = some (.int .i64 ((rd_T46 y480 (ji23)).f1)) ∧ w'.cell? ⟨go28, ((ji23)).toNat * 2, none⟩ = some (.int .i64 ((rd_T46 y480 (ji23)).f0)) ∧ w'.cell? ⟨go28, ((ji23)).toNat * 2 + 1, none⟩ = some (.int .i64 ((rd_T46 y480 (ji23)).f1))) (ds := [24, 27]) #[n_, n_, n_, n_, n_, n_, n_, n_, n_, n_, n_, n_, n_, n_, n_, n_, n_, n_, n_, n_, n_, n_, n_, n_, n_, n_, n_, n_] (by kernel_rfl) rfl rfl ⟨hx485_0, hx485_1, hx486_0, hx486_1⟩ (fun hHeld => ?_); refine with_tabW cohousinglaw30_LeakPlay.tab8 cohousinglaw30_LeakPlay.bits8 (fun HT_ HW_ => ?_)
            generalize w128.drew = w129 at HO476 HO482 HB GG28 HQ131 HQ132 hf28_0 hf28_1 hx28_0 hx28_1 hx485_0 hx485_1 hx486_0 hx486_1 hHeld ⊢
            refine pu_ 0 65 (w_ 28 1) rfl HT_ ?_
            refine pu_ 1 66 (w_ 28 3) rfl HT_ ?_
            refine pu_ 2 67 (w_ 28 7) rfl HT_ ?_
            refine pu_ 3 68 (w_ 28 15) rfl HT_ ?_
            refine pu_ 4 69 (w_ 28 31) rfl HT_ ?_
            refine pu_ 5 70 (w_ 28 63) rfl HT_ ?_
            refine pu_ 6 71 (w_ 28 127) rfl HT_ ?_
            refine pu_ 7 72 (w_ 28 255) rfl HT_ ?_
            refine pu_ 9 74 (w_ 28 767) rfl HT_ ?_
            refine pu_ 10 75 (w_ 28 1791) rfl HT_ ?_
            refine pu_ 13 78 (w_ 28 9983) rfl HT_ ?_
            refine pu_ 14 79 (w_ 28 26367) rfl HT_ ?_
            refine pu_ 15 80 (w_ 28 59135) rfl HT_ ?_
            refine pu_ 16 81 (w_ 28 124671) rfl HT_ ?_
            refine pu_ 18 83 (w_ 28 386815) rfl HT_ ?_
            refine pu_ 19 84 (w_ 28 911103) rfl HT_ ?_
            refine ta_ 8 73 (w_ 28 911359) rfl HT_ HW_ hHeld (by rintro w' ⟨s0, s1, s2, s3⟩; go_simp; with_reducible rfl) ?_
            refine pu_ 11 76 (w_ 28 913407) rfl HT_ ?_
            refine pu_ 12 77 (w_ 28 917503) rfl HT_ ?_
            refine ta_ 17 82 (w_ 28 1048575) rfl HT_ HW_ hHeld (by rintro w' ⟨s0, s1, s2, s3⟩; go_simp; with_reducible rfl) ?_
            refine pu_ 20 85 (w_ 28 2097151) rfl HT_ ?_
            refine pu_ 21 86 (w_ 28 4194303) rfl HT_ ?_
            refine pu_ 22 87 (w_ 28 8388607) rfl HT_ ?_
            refine pu_ 23 88 (w_ 28 16777215) rfl HT_ ?_
            refine last_ (i := 24) (N := none) (w_ 28 33554431) rfl rfl (one_of HT_.out (by kernel_rfl)) (by decide) (fun K hK => ?_)
            refine skip_ (w1 := ?_) (by rfl) rfl ?_ ?_
            rotate_left
            ·go_simp
             rfl
            refine hK.out _ _ ?_
            clear hK K
            refine pu_ 25 89 (w_ 28 67108863) rfl HT_ ?_
            refine pu_ 26 90 (w_ 28 134217727) rfl HT_ ?_
            refine last_ (i := 27) (N := none) (w_ 28 268435455) rfl rfl (one_of HT_.out (by kernel_rfl)) (by decide) (fun K hK => ?_)
            refine skip_ (w1 := ?_) (by rfl) rfl ?_ ?_
            rotate_left
            ·go_simp
             rfl
            refine hK.out _ _ ?_
            clear hK K
            refine done_ (done_of HT_.out (by kernel_rfl)) ?_
            try go_wp2_with (first | ((with_reducible refine gate_callee (f := 13) rfl ?_); refine gl_ (some 95) Try.func13 #[.slice A0 l0.length c0, .slice A1 l1.length c1, .int .i64 a2] ?_; (with_reducible refine (leak_Explain.calls _ _ l0 _ _ l1 a2 t489 t490 t491 _ ?side1 ?side2 ?side3 ?side4 A30.out).mono ?_); (case side1 => exact Kd.C_below HR0.out (by repeat (first | (with_reducible first | exact HB.out | apply below_alloc | apply pw_below_drewN | apply below_drew1 | refine below_set ?_ GB28.out | refine below_set ?_ GB28.out) | exact HB.out))); (case side2 => exact HC0.out); (case side3 => exact Kd.C_below HR1.out (by repeat (first | (with_reducible first | exact HB.out | apply below_alloc | apply pw_below_drewN | apply below_drew1 | refine below_set ?_ GB28.out | refine below_set ?_ GB28.out) | exact HB.out))); (case side4 => exact HC1.out); rintro e w133 ⟨v492, rfl, ho0, hb⟩; refine ⟨_, rfl, ?_⟩; have n0_ := Aside0.mk (Kd.R_below (by (with_reducible repeat (first | apply Kd.R_alloc | apply Kd.R_drewN | apply Kd.R_drew)); exact (Kd.R_mono (Kd.R_far (p := ⟨go28, ((ji23) : Int).toNat * 2 + 1, none⟩) (Kd.R_far (p := ⟨go28, ((ji23) : Int).toNat * 2, none⟩) (Kd.R_types HO476.out GG28.out (by decide)) (fun _ hk => hk.2) (.int .i64 ji26)) (fun _ hk => hk.2) (.int .i64 ji27)) (fun _ h_ => h_.1))) hb); have n1_ := Aside0.mk (Kd.R_below (rr_ HQ132) hb); have n2_ := Aside0.mk (Kd.R_lower ho0 (below_size (by repeat (first | (with_reducible first | exact HB.out | apply below_alloc | apply pw_below_drewN | apply below_drew1 | refine below_set ?_ GB28.out | refine below_set ?_ GB28.out) | exact HB.out)))); have n3_ := Aside0.mk (below_step (by repeat (first | (with_reducible first | exact HB.out | apply below_alloc | apply pw_below_drewN | apply below_drew1 | refine below_set ?_ GB28.out | refine below_set ?_ GB28.out) | exact HB.out)) hb); clear HO476; clear HO482; clear HB; have HO476 := n0_; have HO482 := n1_; have HO493 := n2_; have HB := n3_; clear n0_ n1_ n2_ n3_; (try clear hb); (try clear hb2); (try clear hk); (try clear hi); (try clear ho0)) | ((with_reducible refine gate_callee (f := 13) rfl ?_); refine goesL_ (some 103) rfl rfl Try.func13 (by kernel_rfl) rfl #[.slice (some ⟨go22, 0, none⟩) y484.length co126, .slice (some ⟨go28, 0, none⟩) y488.length co130, .int .i64 a2] rfl (by (try simp only [List.map_toArray, List.map_cons, List.map_nil]); first | done | (rw [show y484.length = y474.length from (Kd.R_reads' HO476.out).1.symm, show y488.length = y480.length from (Kd.R_reads' HO482.out).1.symm] <;> rfl) | rfl | (simp only [List.length_drop, List.length_take]; rfl)) ?_; (with_reducible refine (leak_Explain.calls _ _ y484 _ _ y488 a2 t494 t495 t496 _ ?side1 ?side2 ?side3 ?side4 A31.out).mono ?_); (case side1 => exact cc_ ((Kd.R_reads' HO476.out).2.2)); (case side2 => rw [show y484.length = y474.length from (Kd.R_reads' HO476.out).1.symm]; exact (Kd.R_reads' HO476.out).2.1); (case side3 => exact cc_ ((Kd.R_reads' HO482.out).2.2)); (case side4 => rw [show y488.length = y480.length from (Kd.R_reads' HO482.out).1.symm]; exact (Kd.R_reads' HO482.out).2.1); rintro e w134 ⟨v497, rfl, ho0, hb⟩; refine ⟨_, rfl, ?_⟩; have n0_ := Aside0.mk (Kd.R_below (rr_ HO476) hb); have n1_ := Aside0.mk (Kd.R_below (rr_ HO482) hb); have n2_ := Aside0.mk (Kd.R_elder' (rr_ HO493) (Kd.R_base ho0) hb); have n3_ := Aside0.mk (Kd.R_lower (Kd.R_new' ho0 (Kd.R_lt (rr_ HO493))) (below_size (bb_ HB))); have n4_ := Aside0.mk (below_step (bb_ HB) hb); clear HO476; clear HO482; clear HO493; clear HB; have HO476 := n0_; have HO482 := n1_; have HO493 := n2_; have HO498 := n3_; have HB := n4_; clear n0_ n1_ n2_ n3_ n4_; (try clear hb); (try clear hb2); (try clear hk); (try clear hi); (try clear ho0)))
            go_ret
            exact ⟨by first | rfl | (simp [errW_none, errW_some] <;> rfl) | (simp only [← hji18, ← hji21, ← hji23, ← hji26, ← hji27]; first | rfl | (simp [errW_none, errW_some] <;> rfl)) | (simp [*, errW_none, errW_some] <;> rfl), by repeat (first | (with_reducible first | exact HB.out | apply below_alloc | apply pw_below_drewN | apply below_drew1) | exact HB.out)⟩
          ·rw [if_neg c25] at H
           exact absurd H (by simp)
         ·rw [if_neg c24] at H
          exact absurd H (by simp)
        ·rw [if_neg c20] at H
         exact absurd H (by simp)
       ·rw [if_neg c19] at H
        exact absurd H (by simp)
     ·rw [if_neg c16] at H
      exact absurd H (by simp)
    ·rw [if_neg c15] at H
     exact absurd H (by simp)
end
end Go.Proofs.Ytolmjhpapidmhaa.P
end
section
namespace Go.Proofs.Ytolmjhpapidmhaa.P
open Go.RowKit Go.Proofs.YtolmjhpapidmhaaW.PrintWords Go.Proofs.YtolmjhpapidmhaaW.PrintLast Go.Proofs.YtolmjhpapidmhaaW.PrintMore Go.Proofs.YtolmjhpapidmhaaH Go.Proofs.FlowTree
open Classical
structure Looser (l m : List PI) : Prop where
 len : m.length = l.length
 id : ∀ j, j < l.length → idP m j = idP l j
 ab : ∀ j, j < l.length → abP m j = abP l j
 lo : ∀ j, j < l.length → loP l j ≤ loP m j
 hi : ∀ j, j < l.length → loP l j ≤ 1000000000 → loP m j ≤ 1000000000
theorem Looser.ok {l m : List PI} (h : Looser l m) (ho : okL l) : okL m := by
 intro i hi
 rw [h.len] at hi
 have h1 := ho i hi
 unfold okP at h1 ⊢
 rw [h.id i hi, h.ab i hi]
 refine ⟨h1.1, fun h0 => ?_, ⟨by have := h.lo i hi; have := h1.2.2.1.1; omega, h.hi i hi h1.2.2.1.2⟩, fun ha => ?_⟩
 ·rw [h.id (i - 1) (by omega)]
  exact h1.2.1 h0
 ·obtain ⟨j, hj, e⟩ := h1.2.2.2 ha
  exact ⟨j, hj, by rw [h.id j (by omega)]; exact e⟩
theorem Looser.kids {l m : List PI} (h : Looser l m) (i : Nat) (hi : i < l.length) : kidsAt m m.length i = kidsAt l l.length i := by
 unfold kidsAt
 rw [h.len]
 refine List.filter_congr fun k hk => ?_
 rw [List.mem_range] at hk
 rw [h.ab k hk, h.id i hi]
structure Wider (n : Nat) (r w : List RG) : Prop where
 len : w.length = r.length
 vol : Vol n (lo9 w) (hi9 w)
 rng : ∀ j, j < n → lo9 w j ≤ lo9 r j ∧ hi9 r j ≤ hi9 w j
theorem good_play {l m : List PI} {r w : List RG} (hg : Good l r) (h : Looser l m) (hw : Wider l.length r w) : Good m w := ⟨h.ok hg.ok, by rw [h.len]; exact hg.n, by rw [h.len, hw.len]; exact hg.len, by rw [h.len]; exact hw.vol⟩
theorem ex_play {l m : List PI} {r w : List RG} (hg : Good l r) (h : Looser l m) (hw : Wider l.length r w) {ss : List Int} (hs : InR l.length ss) (he : explB l r ss = true) : explB m w ss = true := by
 rw [ex_iff (good_play hg h hw) (by rw [h.len]; exact hs)]
 obtain ⟨x, hx⟩ := (ex_iff hg hs).1 he
 refine ⟨x, sol_wider (T := netT (LL l ss)) ?_ ?_ ?_ ?_ hx⟩
 ·simp [netT, LL_len, h.len]
 ·intro i hi
  simp only [netT, LL_len] at hi ⊢
  have h1 := LL_kids l ss i hi
  have h2 := LL_kids m ss i (by rw [h.len]; exact hi)
  rw [LL_len] at h1 h2
  rw [h1, h2, h.kids i hi]
 ·intro i hi hk
  simp only [netT, LL_len] at hi hk ⊢
  rw [LL_loP l ss i hi, LL_loP m ss i (by rw [h.len]; exact hi)]
  have := h.lo i hi
  split <;> omega
 ·intro i hi
  simp only [netT, LL_len] at hi
  exact hw.rng i hi
theorem rr_set (r : List RG) (i j : Nat) (y : RG) (hi : i < r.length) : rr (r.set i y) j = if i = j then y else rr r j := by
 simp only [rr, rd_T46, Int.toNat_natCast, List.getD_eq_getElem?_getD, List.getElem?_set]
 by_cases h : i = j
 ·subst h; simp [hi]
 ·simp [h]
theorem tmod_nat {a : Int} {n : Nat} (ha : 0 ≤ a) (hn : 0 < n) : ∃ i : Nat, Int.tmod a (n : Int) = (i : Int) ∧ i < n := by
 have h1 := Int.tmod_nonneg (n : Int) ha
 have h2 := Int.tmod_lt_of_pos a (show (0 : Int) < (n : Int) by omega)
 exact ⟨(Int.tmod a (n : Int)).toNat, by omega, by omega⟩
section
variable (l : List PI) (r : List RG) (hl : l.length ≤ 5864062014805) (hr : r.length ≤ 140737488355328)
include hl hr
theorem play_ (a b c d : Int) (hb : 0 ≤ b ∧ b ≤ 255) (hc : 0 ≤ c ∧ c ≤ 255) (hd : 0 ≤ d ∧ d ≤ 65535) : Ev (fun k => cohousinglaw30_LeakPlay.f k l r a b c d) true := by
 have hout : Ev (fun k => cohousinglaw30_LeakPlay.j0 k l r a b c d true true) true := by
  refine Ev.step ?_
  simp only [cohousinglaw30_LeakPlay.j0, if_true]
  exact Ev.pure _
 unfold cohousinglaw30_LeakPlay.f
 refine Ev.bnd head30 ?_
 refine Ev.bnd (usable_f l r a) ?_
 by_cases hU : U l r a
 case neg =>
  simp only [decide_eq_false hU, Bool.false_eq_true, if_false]
  exact hout
 simp only [decide_eq_true hU, if_true]
 by_cases h0 : l.length = 0
 ·rw [show ((l.length : Int) == 0) = true from beq_iff_eq.2 (by omega)]
  exact hout
 rw [show ((l.length : Int) == 0) = false from beq_eq_false_iff_ne.2 (by omega)]
 have hn := hU.n
 have hm := hU.m
 have hg := hU.good
 have hrl := hg.len
 have wb : wrap64 b = b := by unfold wrap64; omega
 have wc : wrap64 c = c := by unfold wrap64; omega
 have wd : wrap64 d = d := by unfold wrap64; omega
 obtain ⟨i, hi, hil⟩ := tmod_nat hb.1 (show 0 < l.length by omega)
 obtain ⟨q, hq, hql⟩ := tmod_nat hc.1 (show 0 < l.length by omega)
 have e1 : ([] : List PI).length + l.length < 5864062014805 := by simp only [List.length_nil]; omega
 have e2 : ([] : List RG).length + r.length < 8796093022208 := by simp only [List.length_nil]; omega
 have e3 : ¬ ((l.length : Int) = 0) := by omega
 have e4 : (0 : Int) ≤ (i : Int) := by omega
 have e5 : (i : Int) < (l.length : Int) := by omega
 have e6 : (0 : Int) ≤ (q : Int) := by omega
 have e7 : (q : Int) < (r.length : Int) := by omega
 refine Ev.step ?_
 simp only [cohousinglaw30_LeakPlay.j0, Bool.false_eq_true, if_false, wb, wc, wd, hi, hq, e1, e2, e3, e4, e5, e6, e7, if_true, Option.bind_some, List.nil_append, Int.toNat_natCast]
 obtain ⟨y0, hy0⟩ : ∃ y, y = r.set q (⟨mx (wrap64 ((rd_T46 r (q : Int)).f0 - d)) 0, (rd_T46 r (q : Int)).f1⟩ : RG) := ⟨_, rfl⟩
 rw [← hy0]
 obtain ⟨w, hw⟩ : ∃ w, w = y0.set q (⟨(rd_T46 y0 (q : Int)).f0, mn (wrap64 ((rd_T46 r (q : Int)).f1 + d)) 1000000000⟩ : RG) := ⟨_, rfl⟩
 rw [← hw]
 obtain ⟨m, hmm⟩ : ∃ m, m = l.set i (⟨(rd_T44 l (i : Int)).f0, (rd_T44 l (i : Int)).f1, mn (wrap64 ((rd_T44 l (i : Int)).f2 + d)) 1000000000⟩ : PI) := ⟨_, rfl⟩
 rw [← hmm]
 have hL : Looser l m := by
  have hp : ∀ j, pp m j = if i = j then (⟨idP l i, abP l i, mn (wrap64 (loP l i + d)) 1000000000⟩ : PI) else pp l j := fun j => by rw [hmm]; exact pp_set l i j _ hil
  have hb1 := (hg.ok i hil).2.2.1
  refine ⟨by rw [hmm, List.length_set], fun j _ => ?_, fun j _ => ?_, fun j _ => ?_, fun j _ h => ?_⟩
  ·show (pp m j).f0 = idP l j
   rw [hp]
   split
   ·rename_i e; rw [e]
   ·rfl
  ·show (pp m j).f1 = abP l j
   rw [hp]
   split
   ·rename_i e; rw [e]
   ·rfl
  ·show loP l j ≤ (pp m j).f2
   rw [hp]
   split
   ·rename_i e
    subst e
    show loP l i ≤ mn (wrap64 (loP l i + d)) 1000000000
    rw [mn_min, show wrap64 (loP l i + d) = loP l i + d by unfold wrap64; omega]
    omega
   ·exact Int.le_refl _
  ·show (pp m j).f2 ≤ 1000000000
   rw [hp]
   split
   ·show mn (wrap64 (loP l i + d)) 1000000000 ≤ 1000000000
    rw [mn_min]
    omega
   ·exact h
 have hW : Wider l.length r w := by
  have hv := hg.vol q hql
  have hyl : y0.length = r.length := by rw [hy0, List.length_set]
  have hp : ∀ j, rr w j = if q = j then (⟨max (lo9 r q - d) 0, min (hi9 r q + d) 1000000000⟩ : RG) else rr r j := fun j => by
   rw [hw, rr_set y0 q j _ (by omega)]
   have h1 : rd_T46 y0 (q : Int) = (⟨mx (wrap64 (lo9 r q - d)) 0, hi9 r q⟩ : RG) := by
    have := rr_set r q q (⟨mx (wrap64 ((rd_T46 r (q : Int)).f0 - d)) 0, (rd_T46 r (q : Int)).f1⟩ : RG) (by omega)
    rw [if_pos rfl, ← hy0] at this
    exact this
   by_cases e : q = j
   ·rw [if_pos e, if_pos e, h1, mn_min]
    show (⟨mx (wrap64 (lo9 r q - d)) 0, min (wrap64 (hi9 r q + d)) 1000000000⟩ : RG) = _
    rw [mx_max, show wrap64 (lo9 r q - d) = lo9 r q - d by unfold wrap64; omega, show wrap64 (hi9 r q + d) = hi9 r q + d by unfold wrap64; omega]
   ·rw [if_neg e, if_neg e, hy0, rr_set r q j _ (by omega), if_neg e]
  refine ⟨by rw [hw, List.length_set, hyl], fun j hj => ?_, fun j hj => ?_⟩
  ·unfold lo9 hi9
   rw [hp]
   have := hg.vol j hj
   split
   ·simp only []
    omega
   ·exact this
  ·show (rr w j).f0 ≤ (rr r j).f0 ∧ (rr r j).f1 ≤ (rr w j).f1
   rw [hp]
   split
   ·rename_i e
    subst e
    show max (lo9 r q - d) 0 ≤ lo9 r q ∧ hi9 r q ≤ min (hi9 r q + d) 1000000000
    omega
   ·exact ⟨Int.le_refl _, Int.le_refl _⟩
 have hV : U m w a := ⟨by rw [hL.len]; exact hn, by rw [hW.len]; exact hm, good_play hg hL hW, hU.a0, hU.a3⟩
 have h := told hU
 have h' := told hV
 rw [leakExplain_f l r a hl hr, leakExplain_f m w a (by rw [hL.len]; exact hl) (by rw [hW.len]; exact hr)]
 simp only [Option.bind_some]
 generalize explainR l r a = x at h
 generalize sureR l r a = y at h
 generalize explainR m w a = x' at h'
 generalize sureR m w a = y' at h'
 cases h with
 | none hno =>
  cases h' with
  | none hno' => simp only [if_true, Bool.false_eq_true, if_false]; exact Ev.pure _
  | some t s rest h1 h2 h3 => simp only [if_true, Bool.false_eq_true, if_false]; exact Ev.pure _
 | some t s rest h1 h2 h3 =>
  have hs : s ∈ exs l r t := by rw [h2]; simp
  obtain ⟨hc1, hc2⟩ := List.mem_filter.1 hs
  have hs' : s ∈ exs m w t := List.mem_filter.2 ⟨by rw [hL.len]; exact hc1, ex_play hg hL hW (combos_in hc1) hc2⟩
  cases h' with
  | none hno' => rw [hno' t h1] at hs'; cases hs'
  | some t' s' rest' h1' h2' h3' =>
   have hle : t' ≤ t := by
    rcases Nat.lt_or_ge t t' with h | h
    ·rw [h3' t h] at hs'; cases hs'
    ·exact h
   have l1 := exs_len hs
   have l2 := exs_len (show s' ∈ exs m w t' by rw [h2']; simp)
   simp only [if_true]
   rw [decide_eq_true (show (s'.length : Int) ≤ (s.length : Int) by omega)]
   exact Ev.pure _
end
end Go.Proofs.Ytolmjhpapidmhaa.P
end
