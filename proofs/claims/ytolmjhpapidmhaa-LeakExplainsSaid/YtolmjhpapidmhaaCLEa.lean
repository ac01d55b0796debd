/- Part 1 of the proof of LeakExplains: what it alone needs. -/
import Derived.Test.YtolmjhpapidmhaaCBe
set_option linter.unusedVariables false
set_option linter.unusedSimpArgs false
section
namespace Go.Proofs.Ytolmjhpapidmhaa.P
open Go.RowKit Go.Proofs.YtolmjhpapidmhaaW.PrintWords Go.Proofs.YtolmjhpapidmhaaW.PrintLast Go.Proofs.YtolmjhpapidmhaaW.PrintMore
attribute [local go_sem] max2_int min2_int max_two min_two max_three min_three max_four min_four
set_option linter.unusedVariables false
set_option linter.unusedSimpArgs false
set_option maxHeartbeats 8000000
set_option maxRecDepth 100000
section
mutual
def cohousinglaw30_LeakExplains.j0 : Nat → List (S44) → List (S46) → Int → Bool → List Int → Int → Bool → Option (Bool)
 | 0, _, _, _, _, _, _, _ => none
 | k + 1, x0, x1, x2, x7, x8, x10, x32 => if x32 = true then (if x7 = true then (if x10 = 0 then (some ((x8.length : Int) == 0)) else (some false)) else (some false)) else (cohousinglaw30_LeakExplains.l0 k x0 x1 x2 x7 x8 (x8.length : Int) 0)
def cohousinglaw30_LeakExplains.l0 : Nat → List (S44) → List (S46) → Int → Bool → List Int → Int → Int → Option (Bool)
 | 0, _, _, _, _, _, _, _ => none
 | k + 1, x0, x1, x2, x7, x8, x44, x45 => if x45 < x44 then ((some (([] : List Int) : List Int)).bind fun y386 => (if 0 ≤ x45 then (if x45 ≤ (x8.length : Int) then ((some (x8.take (x45 : Int).toNat : List Int)).bind fun y389 => (if y386.length + y389.length < 17592186044416 then ((some (y386 ++ y389 : List Int)).bind fun y393 => (if 0 ≤ (wrap64 (x45 + 1)) then (if (wrap64 (x45 + 1)) ≤ (x8.length : Int) then ((some (x8.drop ((wrap64 (x45 + 1)) : Int).toNat : List Int)).bind fun y396 => (if y393.length + y396.length < 17592186044416 then ((cohousinglaw30_explains.f k x0 x1 (y393 ++ y396)).bind fun t403 => (if t403 = true then (some false) else (cohousinglaw30_LeakExplains.l0 k x0 x1 x2 x7 x8 x44 (wrap64 (x45 + 1))))) else (none))) else (none)) else (none))) else (none))) else (none)) else (none))) else (if x7 = true then (if (x8.length : Int) ≤ x2 then ((cohousinglaw30_explains.f k x0 x1 x8).bind fun t404 => (some t404)) else (some false)) else (some false))
end
def cohousinglaw30_LeakExplains.f (k : Nat) (l0 : List (S44)) (l1 : List (S46)) (a2 : Int) : Option (Bool) := (cohousinglaw30_head.f k).bind fun t379 => ((cohousinglaw30_usable.f k l0 l1 a2).bind fun t380 => (if t380 = true then ((leak_Explain.f l0 l1 a2).bind fun bt381 => (if bt381.2.2 = 0 then (cohousinglaw30_LeakExplains.j0 k l0 l1 a2 t379 bt381.1 bt381.2.2 (!bt381.2.1)) else (cohousinglaw30_LeakExplains.j0 k l0 l1 a2 t379 bt381.1 bt381.2.2 true))) else (some t379)))
def cohousinglaw30_LeakExplains.T10 : Bool × List (List Nat × List Nat) := (true, [([], []), ([], []), ([], []), ([], []), ([], []), ([3, 4], [3, 4]), ([2, 5], [2, 5]), ([], []), ([], []), ([8], [8]), ([7, 9], [7, 9]), ([6, 10, 6], [6, 10]), ([0, 1, 11, 11], [0, 1, 11])])
def cohousinglaw30_LeakExplains.B10 : List Nat := [0, 0, 0, 0, 0, 24, 60, 0, 0, 256, 896, 2044, 4095]
theorem cohousinglaw30_LeakExplains.tab10 : rtab .any (opsOf Try.f4 10) = cohousinglaw30_LeakExplains.T10 := by kernel_rfl
theorem cohousinglaw30_LeakExplains.bits10 : waitsOk cohousinglaw30_LeakExplains.T10.2 cohousinglaw30_LeakExplains.B10 = true := by kernel_rfl
theorem cohousinglaw30_LeakExplains.calls (k : Nat) (A0 : Option Addr) (c0 : Nat) (l0 : List (S44)) (A1 : Option Addr) (c1 : Nat) (l1 : List (S46)) (a2 : Int) (r : Bool) (w : World) (hr0 : Kd.C k44 w A0 l0.length l0) (hc0 : l0.length ≤ c0) (hr1 : Kd.C k46 w A1 l1.length l1) (hc1 : l1.length ≤ c1) (h : cohousinglaw30_LeakExplains.f k l0 l1 a2 = some r) :
  Calls Try.prog 4 #[.slice A0 l0.length c0, .slice A1 l1.length c1, .int .i64 a2] w fun e w' => e = .returned (.bool r) ∧ Below w.heap.size w w' := by
 have HR0 := Aside0.mk hr0
 have HC0 := Aside0.mk hc0
 clear hr0 hc0
 have HR1 := Aside0.mk hr1
 have HC1 := Aside0.mk hc1
 clear hr1 hc1
 have HB := Aside0.mk (Below.refl w.heap.size w)
 have H : ((cohousinglaw30_head.f k).bind fun t379 => ((cohousinglaw30_usable.f k l0 l1 a2).bind fun t380 => (if t380 = true then ((leak_Explain.f l0 l1 a2).bind fun bt381 => (if bt381.2.2 = 0 then (cohousinglaw30_LeakExplains.j0 k l0 l1 a2 t379 bt381.1 bt381.2.2 (!bt381.2.1)) else (cohousinglaw30_LeakExplains.j0 k l0 l1 a2 t379 bt381.1 bt381.2.2 true))) else (some t379)))) = some r := h
 clear h
 replace H := Option.bind_eq_some_iff.mp H
 obtain ⟨t379, A40, H⟩ := H
 replace H : ((cohousinglaw30_usable.f k l0 l1 a2).bind fun t380 => (if t380 = true then ((leak_Explain.f l0 l1 a2).bind fun bt381 => (if bt381.2.2 = 0 then (cohousinglaw30_LeakExplains.j0 k l0 l1 a2 t379 bt381.1 bt381.2.2 (!bt381.2.1)) else (cohousinglaw30_LeakExplains.j0 k l0 l1 a2 t379 bt381.1 bt381.2.2 true))) else (some t379))) = some r := H
 have A4 := Aside0.mk A40
 clear A40
 replace H := Option.bind_eq_some_iff.mp H
 obtain ⟨t380, A50, H⟩ := H
 replace H : (if t380 = true then ((leak_Explain.f l0 l1 a2).bind fun bt381 => (if bt381.2.2 = 0 then (cohousinglaw30_LeakExplains.j0 k l0 l1 a2 t379 bt381.1 bt381.2.2 (!bt381.2.1)) else (cohousinglaw30_LeakExplains.j0 k l0 l1 a2 t379 bt381.1 bt381.2.2 true))) else (some t379)) = some r := H
 have A5 := Aside0.mk A50
 clear A50
 by_cases c6 : t380 = true
 ·subst c6
  have H1 : ((leak_Explain.f l0 l1 a2).bind fun bt381 => (if bt381.2.2 = 0 then (cohousinglaw30_LeakExplains.j0 k l0 l1 a2 t379 bt381.1 bt381.2.2 (!bt381.2.1)) else (cohousinglaw30_LeakExplains.j0 k l0 l1 a2 t379 bt381.1 bt381.2.2 true))) = some r := by rw [if_pos rfl] at H; exact H
  clear H
  have H := H1
  clear H1
  replace H := Option.bind_eq_some_iff.mp H
  obtain ⟨⟨t381, t382, t383⟩, A70, H⟩ := H
  replace H : (if t383 = 0 then (cohousinglaw30_LeakExplains.j0 k l0 l1 a2 t379 t381 t383 (!t382)) else (cohousinglaw30_LeakExplains.j0 k l0 l1 a2 t379 t381 t383 true)) = some r := H
  have A7 := Aside0.mk A70
  clear A70
  have HC8 := Aside0.mk H
  clear H
  go_enter Try.func4, Try.ntmps4
  go_upto_region 5 with (first | ((with_reducible refine gate_callee (f := 11) rfl ?_); refine gl_ (some 12) Try.func11 #[] ?_; (with_reducible refine (cohousinglaw30_head.calls k  t379 _ A4.out).mono ?_); rintro e w9 ⟨rfl, hb⟩; refine ⟨_, rfl, ?_⟩; have n0_ := Aside0.mk (below_step (bb_ HB) hb); clear HB; have HB := n0_; clear n0_; (try clear hb); (try clear hb2); (try clear hk); (try clear hi)) | ((with_reducible refine gate_callee (f := 18) rfl ?_); refine gl_ (some 16) Try.func18 #[.slice A0 l0.length c0, .slice A1 l1.length c1, .int .i64 a2] ?_; (with_reducible refine (cohousinglaw30_usable.calls k _ _ l0 _ _ l1 a2 true _ ?side1 ?side2 ?side3 ?side4 A5.out).mono ?_); (case side1 => exact cc_ ((Kd.C_below HR0.out HB.out))); (case side2 => exact HC0.out); (case side3 => exact cc_ ((Kd.C_below HR1.out HB.out))); (case side4 => exact HC1.out); rintro e w10 ⟨rfl, hb⟩; refine ⟨_, rfl, ?_⟩; have n0_ := Aside0.mk (below_step (bb_ HB) hb); clear HB; have HB := n0_; clear n0_; (try clear hb); (try clear hb2); (try clear hk); (try clear hi)) | ((with_reducible refine gate_callee (f := 13) rfl ?_); refine gl_ (some 23) Try.func13 #[.slice A0 l0.length c0, .slice A1 l1.length c1, .int .i64 a2] ?_; (with_reducible refine (leak_Explain.calls _ _ l0 _ _ l1 a2 t381 t382 t383 _ ?side1 ?side2 ?side3 ?side4 A7.out).mono ?_); (case side1 => exact cc_ ((Kd.C_below HR0.out HB.out))); (case side2 => exact HC0.out); (case side3 => exact cc_ ((Kd.C_below HR1.out HB.out))); (case side4 => exact HC1.out); rintro e w11 ⟨v384, rfl, ho0, hb⟩; refine ⟨_, rfl, ?_⟩; have n0_ := Aside0.mk (Kd.R_lower ho0 (below_size (bb_ HB))); have n1_ := Aside0.mk (below_step (bb_ HB) hb); clear HB; have HO385 := n0_; have HB := n1_; clear n0_ n1_; (try clear hb); (try clear hb2); (try clear hk); (try clear hi); (try clear ho0)))
  (try simp only [Act.put, sI_, s0_, sS_])
  go_cut [32] (fun v32 wc => ∃ (kq : Nat) (x32_7 : Bool), v32 = .bool x32_7 ∧ Aside0 (cohousinglaw30_LeakExplains.j0 kq l0 l1 a2 t379 t381 t383 x32_7 = some r) ∧ Aside0 (kq ≤ k) ∧ Aside0 (Kd.R (Kd.int .i64) 3 wc w.heap.size (fun _ => True) v384 t381) ∧ Aside0 (Below w.heap.size w wc))
  case first =>
   have H := HC8.out
   clear HC8
   by_cases c12 : t383 = 0
   ·rw [if_pos c12] at H
    have c12b0 : (t383 == 0) = true := beq_iff_eq.mpr c12
    have c12b1 : (t383 != 0) = false := bne_eq_false_iff_eq.mpr c12
    clear c12
    (first | rw [c12b0] | (simp only [i64_w, i32_w]; rw [c12b0]) | skip)
    have H' := Aside0.mk H
    clear H
    go_wp2
    go_meet
    case rel => exact ⟨_, (!t382), sd_, H', ⟨by first | omega | exact Nat.le_refl _⟩, ⟨by (with_reducible repeat (first | apply Kd.R_alloc | apply Kd.R_drewN | apply Kd.R_drew)); exact HO385.out⟩, ⟨by repeat (first | (with_reducible first | exact HB.out | apply below_alloc | apply pw_below_drewN | apply below_drew1) | exact HB.out)⟩⟩
   ·rw [if_neg c12] at H
    have c12b0 : (t383 == 0) = false := beq_eq_false_iff_ne.mpr c12
    have c12b1 : (t383 != 0) = true := bne_iff_ne.mpr c12
    (first | rw [c12b0] | (simp only [i64_w, i32_w]; rw [c12b0]) | skip)
    have H' := Aside0.mk H
    clear H
    go_wp2
    go_meet
    case rel => exact ⟨_, (true), sd_, H', ⟨by first | omega | exact Nat.le_refl _⟩, ⟨by (with_reducible repeat (first | apply Kd.R_alloc | apply Kd.R_drewN | apply Kd.R_drew)); exact HO385.out⟩, ⟨by repeat (first | (with_reducible first | exact HB.out | apply below_alloc | apply pw_below_drewN | apply below_drew1) | exact HB.out)⟩⟩
  case rest =>
   clear HC8
   try clear c1
   try clear p2
   try clear c4
   try clear c6
   try clear c11
   try clear c12
   try clear c12b0
   try clear c12b1
   obtain ⟨kq, x32_7, rfl, HA, HJ7, HO_8, HB⟩ := hcut
   cases kq with
   | zero => exact absurd HA.out (by simp [cohousinglaw30_LeakExplains.j0])
   | succ kj7 =>
    have H := HA.out
    clear HA
    simp only [cohousinglaw30_LeakExplains.j0] at H
    by_cases c13 : x32_7 = true
    ·subst c13
     have H1 : (if t379 = true then (if t383 = 0 then (some ((t381.length : Int) == 0)) else (some false)) else (some false)) = some r := by rw [if_pos rfl] at H; exact H
     clear H
     have H := H1
     clear H1
     by_cases c14 : t379 = true
     ·subst c14
      have H1 : (if t383 = 0 then (some ((t381.length : Int) == 0)) else (some false)) = some r := by rw [if_pos rfl] at H; exact H
      clear H
      have H := H1
      clear H1
      by_cases c15 : t383 = 0
      ·rw [if_pos c15] at H
       have c15b0 : (t383 == 0) = true := beq_iff_eq.mpr c15
       have c15b1 : (t383 != 0) = false := bne_eq_false_iff_eq.mpr c15
       clear c15
       obtain rfl := Option.some.inj H
       obtain ⟨Ao16, co16, eo16⟩ := Kd.R_slice HO_8.out
       subst eo16
       go_wp2
       go_ret
       exact ⟨ew_, by repeat (first | (with_reducible first | exact HB.out | apply below_alloc | apply pw_below_drewN | apply below_drew1) | exact HB.out)⟩
      ·rw [if_neg c15] at H
       have c15b0 : (t383 == 0) = false := beq_eq_false_iff_ne.mpr c15
       have c15b1 : (t383 != 0) = true := bne_iff_ne.mpr c15
       obtain rfl := Option.some.inj H
       go_wp2
       go_ret
       exact ⟨ew_, by repeat (first | (with_reducible first | exact HB.out | apply below_alloc | apply pw_below_drewN | apply below_drew1) | exact HB.out)⟩
     ·replace c14 := Bool.eq_false_iff.mpr c14
      subst c14
      have H1 : (some false) = some r := by rw [if_neg (show ¬ (false = true) by decide)] at H; exact H
      clear H
      have H := H1
      clear H1
      obtain rfl := Option.some.inj H
      go_wp2
      go_ret
      exact ⟨ew_, by repeat (first | (with_reducible first | exact HB.out | apply below_alloc | apply pw_below_drewN | apply below_drew1) | exact HB.out)⟩
    ·replace c13 := Bool.eq_false_iff.mpr c13
     subst c13
     have H1 : (cohousinglaw30_LeakExplains.l0 kj7 l0 l1 a2 t379 t381 (t381.length : Int) 0) = some r := by rw [if_neg (show ¬ (false = true) by decide)] at H; exact H
     clear H
     have H := H1
     clear H1
     have H' := Aside0.mk H
     clear H
     obtain ⟨Ao17, co17, eo17⟩ := Kd.R_slice HO_8.out
     subst eo17
     go_wp2
     go_loopg [45] kj7 (fun kq v45 w' => ∃ (x45_2 : Int), v45 = .int .i64 x45_2 ∧ Aside0 (cohousinglaw30_LeakExplains.l0 kq l0 l1 a2 t379 t381 (t381.length : Int) x45_2 = some r) ∧ Aside0 (kq ≤ kj7) ∧ Aside0 (Kd.R (Kd.int .i64) 3 w' w.heap.size (fun _ => True) (.slice Ao17 t381.length co17) t381) ∧ Aside0 (Below w.heap.size w w'))
     case atStart => exact ⟨(0), sd_, H', ⟨Nat.le_refl _⟩, ⟨by (with_reducible repeat (first | apply Kd.R_alloc | apply Kd.R_drewN | apply Kd.R_drew)); exact HO_8.out⟩, ⟨by repeat (first | (with_reducible first | exact HB.out | apply below_alloc | apply pw_below_drewN | apply below_drew1) | exact HB.out)⟩⟩
     case round =>
      clear H'
      try clear c1
      try clear p2
      try clear c4
      try clear c6
      try clear c11
      try clear c12
      try clear c12b0
      try clear c12b1
      try clear c13
      try clear c14
      try clear c15
      try clear c15b0
      try clear c15b1
      try clear p2
      obtain ⟨x45_2, rfl, HA, HK2, HO_8, HB⟩ := hrel
      cases gk with
      | zero => exact absurd HA.out (by simp [cohousinglaw30_LeakExplains.l0])
      | succ k2 =>
       have H := HA.out
       clear HA
       simp only [cohousinglaw30_LeakExplains.l0] at H
       by_cases c18 : x45_2 < (t381.length : Int)
       ·rw [if_pos c18] at H
        have c18b0 : decide (x45_2 < (t381.length : Int)) = true := decide_eq_true c18
        clear c18
        obtain ⟨y386, hy386⟩ : ∃ y_ : List Int, y_ = (([] : List Int)) := ⟨_, rfl⟩
        replace H : (if 0 ≤ x45_2 then (if x45_2 ≤ (t381.length : Int) then ((some (t381.take (x45_2 : Int).toNat : List Int)).bind fun y389 => (if y386.length + y389.length < 17592186044416 then ((some (y386 ++ y389 : List Int)).bind fun y393 => (if 0 ≤ (wrap64 (x45_2 + 1)) then (if (wrap64 (x45_2 + 1)) ≤ (t381.length : Int) then ((some (t381.drop ((wrap64 (x45_2 + 1)) : Int).toNat : List Int)).bind fun y396 => (if y393.length + y396.length < 17592186044416 then ((cohousinglaw30_explains.f k2 l0 l1 (y393 ++ y396)).bind fun t403 => (if t403 = true then (some false) else (cohousinglaw30_LeakExplains.l0 k2 l0 l1 a2 t379 t381 (t381.length : Int) (wrap64 (x45_2 + 1))))) else (none))) else (none)) else (none))) else (none))) else (none)) else (none)) = some r := by first | (rw [hy386]; with_reducible exact H) | (have H2_ := (Option.bind_some _ _).symm.trans H; rw [hy386]; with_reducible exact H2_) | (have H2_ := (Option.bind_some _ _).symm.trans H; with_reducible exact H2_) | with_reducible exact H | (rw [hy386]; exact H) | exact H
        have Ny386 := Aside0.mk hy386
        clear hy386
        by_cases c19 : 0 ≤ x45_2
        ·rw [if_pos c19] at H
         have c19b0 := eq_true c19
         have c19b1 : decide (0 ≤ x45_2) = true := decide_eq_true c19
         clear c19
         by_cases c20 : x45_2 ≤ (t381.length : Int)
         ·rw [if_pos c20] at H
          have c20b0 := eq_true c20
          have c20b1 : decide (x45_2 ≤ (t381.length : Int)) = true := decide_eq_true c20
          clear c20
          obtain ⟨y389, hy389⟩ : ∃ y_ : List Int, y_ = (t381.take (x45_2 : Int).toNat) := ⟨_, rfl⟩
          replace H : (if y386.length + y389.length < 17592186044416 then ((some (y386 ++ y389 : List Int)).bind fun y393 => (if 0 ≤ (wrap64 (x45_2 + 1)) then (if (wrap64 (x45_2 + 1)) ≤ (t381.length : Int) then ((some (t381.drop ((wrap64 (x45_2 + 1)) : Int).toNat : List Int)).bind fun y396 => (if y393.length + y396.length < 17592186044416 then ((cohousinglaw30_explains.f k2 l0 l1 (y393 ++ y396)).bind fun t403 => (if t403 = true then (some false) else (cohousinglaw30_LeakExplains.l0 k2 l0 l1 a2 t379 t381 (t381.length : Int) (wrap64 (x45_2 + 1))))) else (none))) else (none)) else (none))) else (none)) = some r := by first | (rw [hy389]; with_reducible exact H) | (have H2_ := (Option.bind_some _ _).symm.trans H; rw [hy389]; with_reducible exact H2_) | (have H2_ := (Option.bind_some _ _).symm.trans H; with_reducible exact H2_) | with_reducible exact H | (rw [hy389]; exact H) | exact H
          have Ny389 := Aside0.mk hy389
          clear hy389
          by_cases c21 : y386.length + y389.length < 17592186044416
          ·rw [if_pos c21] at H
           have LMc21 := Aside0.mk c21
           clear c21
           obtain ⟨y393, hy393⟩ : ∃ y_ : List Int, y_ = (y386 ++ y389) := ⟨_, rfl⟩
           replace H : (if 0 ≤ (wrap64 (x45_2 + 1)) then (if (wrap64 (x45_2 + 1)) ≤ (t381.length : Int) then ((some (t381.drop ((wrap64 (x45_2 + 1)) : Int).toNat : List Int)).bind fun y396 => (if y393.length + y396.length < 17592186044416 then ((cohousinglaw30_explains.f k2 l0 l1 (y393 ++ y396)).bind fun t403 => (if t403 = true then (some false) else (cohousinglaw30_LeakExplains.l0 k2 l0 l1 a2 t379 t381 (t381.length : Int) (wrap64 (x45_2 + 1))))) else (none))) else (none)) else (none)) = some r := by first | (rw [hy393]; with_reducible exact H) | (have H2_ := (Option.bind_some _ _).symm.trans H; rw [hy393]; with_reducible exact H2_) | (have H2_ := (Option.bind_some _ _).symm.trans H; with_reducible exact H2_) | with_reducible exact H | (rw [hy393]; exact H) | exact H
           have Ny393 := Aside0.mk hy393
           clear hy393
           obtain ⟨ji22, hji22⟩ : ∃ j_ : Int, (wrap64 (x45_2 + 1)) = j_ := ⟨_, rfl⟩
           replace H : (if 0 ≤ (ji22) then (if (ji22) ≤ (t381.length : Int) then ((some (t381.drop ((ji22) : Int).toNat : List Int)).bind fun y396 => (if y393.length + y396.length < 17592186044416 then ((cohousinglaw30_explains.f k2 l0 l1 (y393 ++ y396)).bind fun t403 => (if t403 = true then (some false) else (cohousinglaw30_LeakExplains.l0 k2 l0 l1 a2 t379 t381 (t381.length : Int) ji22))) else (none))) else (none)) else (none)) = some r := by first | (rw [hji22] at H; exact H) | (simp only [hji22] at H ⊢; exact H)
           have hji22w : (IntKind.i64.wrap (x45_2 + 1)) = ji22 := (i64_w _).trans hji22
           by_cases c23 : 0 ≤ (ji22)
           ·rw [if_pos c23] at H
            have c23b0 := eq_true c23
            have c23b1 : decide (0 ≤ (ji22)) = true := decide_eq_true c23
            clear c23
            by_cases c24 : (ji22) ≤ (t381.length : Int)
            ·rw [if_pos c24] at H
             have c24b0 := eq_true c24
             have c24b1 : decide ((ji22) ≤ (t381.length : Int)) = true := decide_eq_true c24
             clear c24
             obtain ⟨y396, hy396⟩ : ∃ y_ : List Int, y_ = (t381.drop ((ji22) : Int).toNat) := ⟨_, rfl⟩
             replace H : (if y393.length + y396.length < 17592186044416 then ((cohousinglaw30_explains.f k2 l0 l1 (y393 ++ y396)).bind fun t403 => (if t403 = true then (some false) else (cohousinglaw30_LeakExplains.l0 k2 l0 l1 a2 t379 t381 (t381.length : Int) ji22))) else (none)) = some r := by first | (rw [hy396]; with_reducible exact H) | (have H2_ := (Option.bind_some _ _).symm.trans H; rw [hy396]; with_reducible exact H2_) | (have H2_ := (Option.bind_some _ _).symm.trans H; with_reducible exact H2_) | with_reducible exact H | (rw [hy396]; exact H) | exact H
             have Ny396 := Aside0.mk hy396
             clear hy396
             by_cases c25 : y393.length + y396.length < 17592186044416
             ·rw [if_pos c25] at H
              have LMc25 := Aside0.mk c25
              clear c25
              obtain ⟨y400, hy400⟩ : ∃ y_ : List Int, y_ = (y393 ++ y396) := ⟨_, rfl⟩
              replace H : ((cohousinglaw30_explains.f k2 l0 l1 y400).bind fun t403 => (if t403 = true then (some false) else (cohousinglaw30_LeakExplains.l0 k2 l0 l1 a2 t379 t381 (t381.length : Int) ji22))) = some r := by first | (rw [hy400]; with_reducible exact H) | (have H2_ := (Option.bind_some _ _).symm.trans H; rw [hy400]; with_reducible exact H2_) | (have H2_ := (Option.bind_some _ _).symm.trans H; with_reducible exact H2_) | with_reducible exact H | (rw [hy400]; exact H) | exact H
              have Ny400 := Aside0.mk hy400
              clear hy400
              replace H := Option.bind_eq_some_iff.mp H
              obtain ⟨t403, A260, H⟩ := H
              replace H : (if t403 = true then (some false) else (cohousinglaw30_LeakExplains.l0 k2 l0 l1 a2 t379 t381 (t381.length : Int) ji22)) = some r := H
              have A26 := Aside0.mk A260
              clear A260
              by_cases c27 : t403 = true
              ·subst c27
               have H1 : (some false) = some r := by rw [if_pos rfl] at H; exact H
               clear H
               have H := H1
               clear H1
               obtain rfl := Option.some.inj H
               try go_wp2
               have n0_ := Aside0.mk (Kd.R_drew HO_8.out)
               have n1_ := Aside0.mk (below_drew1 HB.out)
               clear HO_8
               clear HB
               have HO_8 := n0_
               have HB := n1_
               clear n0_ n1_
               have q29 : (x45_2 : Int) ≤ ((t381.length : Int) : Int) := od_
               obtain ⟨i029, hi029, _, hsz29, _⟩ := info_parts info3
               have hroom29 : t381.length ≤ co17 := (Kd.R_reads' HO_8.out).2.1
               have hC29 : Kd.C (Kd.int .i64) _ Ao17 t381.length t381 := (Kd.R_reads' HO_8.out).2.2
               have hcut29 := cut_to (P := Try.prog) 26 3 .i64 Try.underlying26 hi029 Ao17 t381.length co17 x45_2 (od_) q29 hroom29
               have hr29 := Kd.C_take (m := (x45_2 : Int).toNat) hC29 (by omega)
               have hy29 : y389.length = (x45_2 : Int).toNat := (by rw [Ny389.out, List.length_take]; omega)
               rw [← Ny389.out] at hr29
               rw [← hy29] at hcut29
               have HR392 := Aside0.mk hr29
               have HC392 := Aside0.mk (show y389.length ≤ co17 from by omega)
               clear hr29 hC29 hroom29 hi029 hsz29
               have KY29 := Aside0.mk hy29
               clear hy29
               have KL29 := Aside0.mk (show (x45_2 : Int).toNat ≤ t381.length from by omega)
               replace q29 := eq_true q29
               have q30 : ((ji22) : Int) ≤ ((t381.length : Int) : Int) := od_
               obtain ⟨i030, hi030, _, hsz30, _⟩ := info_parts info3
               have hroom30 : t381.length ≤ co17 := (Kd.R_reads' HO_8.out).2.1
               have hC30 : Kd.C (Kd.int .i64) _ Ao17 t381.length t381 := (Kd.R_reads' HO_8.out).2.2
               have q030 : (0 : Int) ≤ ((ji22) : Int) := od_
               have hcut30 := cut_from (P := Try.prog) 26 3 .i64 Try.underlying26 hi030 1 hsz30 Ao17 t381.length co17 (ji22) q030 q30
               have hr30 := Kd.C_drop (m := ((ji22) : Int).toNat) (c := co17) hC30 (by omega) hroom30
               obtain ⟨A30, hA30⟩ : ∃ A1, A1 = (if co17 = ((ji22) : Int).toNat then Ao17 else (Ao17 : Option Addr).map (·.add (((ji22) : Int).toNat * 1))) := ⟨_, rfl⟩
               obtain ⟨c30, hc30⟩ : ∃ c1, c1 = co17 - ((ji22) : Int).toNat := ⟨_, rfl⟩
               have hy30 : y396.length = t381.length - ((ji22) : Int).toNat := (by rw [Ny396.out, List.length_drop] <;> omega)
               rw [show (t381).drop ((ji22) : Int).toNat = y396 from Ny396.out.symm] at hr30
               replace hr30 : Kd.C (Kd.int .i64) _ A30 y396.length y396 := (by rw [hA30]; exact hr30)
               rw [← hy30, ← hA30, ← hc30] at hcut30
               have HR399 := Aside0.mk hr30
               have HC399 := Aside0.mk (show y396.length ≤ c30 from by rw [hy30, hc30]; exact Nat.sub_le_sub_right hroom30 _)
               clear hr30 hC30 hroom30 hi030 hsz30 hc30
               have KY30 := Aside0.mk hy30
               have KA30 := Aside0.mk hA30
               clear hy30 hA30
               have KL30 := Aside0.mk (show ((ji22) : Int).toNat ≤ t381.length from by omega)
               replace q30 := eq_true q30
               refine start_ (n := 13) (S := fun w' => True) (ds := []) #[n_, n_, n_, n_, n_, n_, n_, n_, n_, n_, n_, n_, n_] (by kernel_rfl) rfl rfl trivial (fun hHeld => ?_); refine with_tabW cohousinglaw30_LeakExplains.tab10 cohousinglaw30_LeakExplains.bits10 (fun HT_ HW_ => ?_)
               generalize wr.drew = w28 at HO_8 HB HR392 HR399 hHeld ⊢
               refine pu_ 0 48 (w_ 13 1) rfl HT_ ?_
               refine pu_ 1 49 (w_ 13 3) rfl HT_ ?_
               refine pu_ 3 51 (w_ 13 11) rfl HT_ ?_
               refine pu_ 4 52 (w_ 13 27) rfl HT_ ?_
               refine pu_ 5 53 (w_ 13 59) rfl HT_ ?_
               refine pu_ 7 55 (w_ 13 187) rfl HT_ ?_
               refine pu_ 8 56 (w_ 13 443) rfl HT_ ?_
               refine pu_ 9 57 (w_ 13 955) rfl HT_ ?_
               refine pu_ 10 58 (w_ 13 1979) rfl HT_ ?_
               refine one_ (i := 2) (N := some 50) (w_ 13 1983) rfl rfl (one_of HT_.out (by kernel_rfl)) (by decide) (fun K hK => ?_)
               refine Kd.R_lit_step (Kd.int .i64) _ 3 ?hg (N := 50) ?hd (xs := ([] : List Int)) (inner := []) (ok := fun _ => True) (okp := fun _ => True) ?hr ?hp (fun _ hk => hk) trivial (Below.refl _ _) (Nat.le_refl _) (by simp) ?_; (case hd => rfl); (case hg => rfl); (case hr => first | (go_simp; done) | (go_simp; rfl)); (case hp => exact (Reps.none _ _))
               intro v387 w31 ho32 hb hg_ hnew_
               clear hg_ hnew_
               (first | rw [← Ny386.out] at ho32 | (simp only [Int.reduceToNat] at ho32; rw [← Ny386.out] at ho32))
               have n0_ := Aside0.mk (Kd.R_elder' (rr_ HO_8) (Kd.R_base ho32) hb)
               have n1_ := Aside0.mk (Kd.R_lower (Kd.R_new' ho32 (Kd.R_lt (rr_ HO_8))) (below_size (bb_ HB)))
               have n2_ := Aside0.mk (Kd.C_below (by repeat (first | (with_reducible exact HR392.out) | (with_reducible refine Kd.C_alloc ?_ _) | (with_reducible refine Kd.C_drewN ?_ _) | (with_reducible refine Kd.C_drew ?_) | exact HR392.out)) hb)
               have n3_ := Aside0.mk (Kd.C_below (by repeat (first | (with_reducible exact HR399.out) | (with_reducible refine Kd.C_alloc ?_ _) | (with_reducible refine Kd.C_drewN ?_ _) | (with_reducible refine Kd.C_drew ?_) | exact HR399.out)) hb)
               have n4_ := Aside0.mk (below_step (bb_ HB) hb)
               clear HO_8
               clear HR392
               clear HR399
               clear HB
               have HO_8 := n0_
               have HO388 := n1_
               have HR392 := n2_
               have HR399 := n3_
               have HB := n4_
               clear n0_ n1_ n2_ n3_ n4_
               clear hb ho32
               refine hK.out _ _ trivial (fun hHeld => ?_)
               clear hK K
               refine norm_ (a' := ?_) ?_ ?_
               rotate_left
               ·show Act.put _ (some 50) _ = _
                simp only [Act.put, sI_, s0_, sS_, i64_w, i32_w]
                rfl
               refine one_ (i := 6) (N := some 54) (w_ 13 2047) rfl rfl (one_of HT_.out (by kernel_rfl)) (by decide) (fun K hK => ?_)
               refine Kd.R_append_rows_step (Kd.int .i64) (w0 := w) w.heap.size (by rfl) (.tmp 50) (.tmp 53) 26 3 (.int .i64 0) 8 rfl Try.underlying26 info3 rfl (by decide) (by omega) v387 y386 y389 _ _ _ (fun k_ => some k_ ≠ (.slice Ao17 t381.length co17 : Value).ownBlock) (fun _ => False) rfl rfl ?aO ?aR (fun _ _ h => h) (fun _ h => h.elim) ?aF ?aB ?aS ?aL ?_
               (case aR => repeat (first | exact (by repeat (first | (with_reducible exact HR392.out) | (with_reducible refine Kd.C_alloc ?_ _) | (with_reducible refine Kd.C_drewN ?_ _) | (with_reducible refine Kd.C_drew ?_) | exact HR392.out)) | (with_reducible refine Kd.C_alloc ?_ _) | (with_reducible refine Kd.C_drewN ?_ _) | (with_reducible refine Kd.C_drew ?_)))
               (case aB => exact (bb_ HB))
               (case aF => exact (fun k_ hk => Kd.fresh' (Kd.R_lt (rr_ HO_8)) k_ hk))
               (case aO => exact (by (with_reducible repeat (first | apply Kd.R_alloc | apply Kd.R_drewN | apply Kd.R_drew)); exact Kd.R_mono HO388.out (fun _ hk => hk.2)))
               (case aS => exact (below_size (bb_ HB)))
               (case aL => have := LMc21.out; omega)
               intro v394 w33 ho hb hg hat
               rw [← Ny393.out] at ho
               have n0_ := Aside0.mk (Kd.R_after (ok := (fun _ => True)) (rr_ HO_8) hg hat)
               have n1_ := Aside0.mk (hb)
               have n2_ := Aside0.mk ((show Kd.C (Kd.int .i64) w33 Ao17 y389.length y389 from by rw [Ny389.out]; exact Kd.C_take (m := (x45_2 : Int).toNat) ((Kd.R_reads' (Kd.R_after (ok := (fun _ => True)) (rr_ HO_8) hg hat)).2.2) KL29.out))
               have n3_ := Aside0.mk ((show Kd.C (Kd.int .i64) w33 A30 y396.length y396 from by rw [Ny396.out, KA30.out]; exact Kd.C_drop (m := ((ji22) : Int).toNat) (c := co17) ((Kd.R_reads' (Kd.R_after (ok := (fun _ => True)) (rr_ HO_8) hg hat)).2.2) KL30.out ((Kd.R_reads' (Kd.R_after (ok := (fun _ => True)) (rr_ HO_8) hg hat)).2.1)))
               have n4_ := Aside0.mk (ho)
               clear HO_8
               clear HB
               clear HR392
               clear HR399
               clear HO388
               have HO_8 := n0_
               have HB := n1_
               have HR392 := n2_
               have HR399 := n3_
               have HO395 := n4_
               clear n0_ n1_ n2_ n3_ n4_
               clear ho hb hg hat
               refine hK.out _ _ trivial (fun hHeld => ?_)
               clear hK K
               refine norm_ (a' := ?_) ?_ ?_
               rotate_left
               ·show Act.put _ (some 54) _ = _
                simp only [Act.put, sI_, s0_, sS_, i64_w, i32_w]
                rfl
               refine one_ (i := 11) (N := some 59) (w_ 13 4095) rfl rfl (one_of HT_.out (by kernel_rfl)) (by decide) (fun K hK => ?_)
               refine Kd.R_append_rows_step (Kd.int .i64) (w0 := w) w.heap.size (by rfl) (.tmp 54) (.tmp 58) 26 3 (.int .i64 0) 8 rfl Try.underlying26 info3 rfl (by decide) (by omega) v394 y393 y396 _ _ _ (fun k_ => some k_ ≠ (.slice Ao17 t381.length co17 : Value).ownBlock) (fun _ => False) rfl rfl ?aO ?aR (fun _ _ h => h) (fun _ h => h.elim) ?aF ?aB ?aS ?aL ?_
               (case aR => repeat (first | exact (by repeat (first | (with_reducible exact HR399.out) | (with_reducible refine Kd.C_alloc ?_ _) | (with_reducible refine Kd.C_drewN ?_ _) | (with_reducible refine Kd.C_drew ?_) | exact HR399.out)) | (with_reducible refine Kd.C_alloc ?_ _) | (with_reducible refine Kd.C_drewN ?_ _) | (with_reducible refine Kd.C_drew ?_)))
               (case aB => exact (bb_ HB))
               (case aF => exact (fun k_ hk => Kd.fresh' (Kd.R_lt (rr_ HO_8)) k_ hk))
               (case aO => exact (rr_ HO395))
               (case aS => exact (below_size (bb_ HB)))
               (case aL => have := LMc25.out; omega)
               intro v401 w34 ho hb hg hat
               rw [← Ny400.out] at ho
               have n0_ := Aside0.mk (Kd.R_after (ok := (fun _ => True)) (rr_ HO_8) hg hat)
               have n1_ := Aside0.mk (hb)
               have n2_ := Aside0.mk ((show Kd.C (Kd.int .i64) w34 Ao17 y389.length y389 from by rw [Ny389.out]; exact Kd.C_take (m := (x45_2 : Int).toNat) ((Kd.R_reads' (Kd.R_after (ok := (fun _ => True)) (rr_ HO_8) hg hat)).2.2) KL29.out))
               have n3_ := Aside0.mk ((show Kd.C (Kd.int .i64) w34 A30 y396.length y396 from by rw [Ny396.out, KA30.out]; exact Kd.C_drop (m := ((ji22) : Int).toNat) (c := co17) ((Kd.R_reads' (Kd.R_after (ok := (fun _ => True)) (rr_ HO_8) hg hat)).2.2) KL30.out ((Kd.R_reads' (Kd.R_after (ok := (fun _ => True)) (rr_ HO_8) hg hat)).2.1)))
               have n4_ := Aside0.mk (ho)
               clear HO_8
               clear HB
               clear HR392
               clear HR399
               clear HO395
               have HO_8 := n0_
               have HB := n1_
               have HR392 := n2_
               have HR399 := n3_
               have HO402 := n4_
               clear n0_ n1_ n2_ n3_ n4_
               clear ho hb hg hat
               obtain ⟨Ao35, co35, eo35⟩ := Kd.R_slice HO402.out
               (first | subst eo35 | (injection eo35 with f1_ f2_ f3_; have f4_ := f1_.symm; have f5_ := f3_.symm; clear f1_ f2_ f3_; subst f4_; subst f5_))
               refine hK.out _ _ trivial (fun hHeld => ?_)
               clear hK K
               refine norm_ (a' := ?_) ?_ ?_
               rotate_left
               ·show Act.put _ (some 59) _ = _
                simp only [Act.put, sI_, s0_, sS_, i64_w, i32_w]
                rfl
               refine one_ (i := 12) (N := some 60) (w_ 13 8191) rfl rfl (one_of HT_.out (by kernel_rfl)) (by decide) (fun K hK => ?_)
               refine goes_ Try.func19 (by kernel_rfl) rfl #[.slice A0 l0.length c0, .slice A1 l1.length c1, .slice Ao35 y400.length co35] (by rfl) rfl rfl (by (try simp only [List.map_toArray, List.map_cons, List.map_nil]); first | done | rfl | (simp only [List.length_drop, List.length_take]; rfl)) ?_
               with_reducible refine (cohousinglaw30_explains.calls k2 _ _ l0 _ _ l1 _ _ y400 true _ ?side1 ?side2 ?side3 ?side4 ?side5 ?side6 A26.out).mono ?_
               (case side1 => exact cc_ ((Kd.C_below HR0.out HB.out)))
               (case side2 => exact HC0.out)
               (case side3 => exact cc_ ((Kd.C_below HR1.out HB.out)))
               (case side4 => exact HC1.out)
               (case side5 => exact cc_ ((Kd.R_reads' HO402.out).2.2))
               (case side6 => exact (Kd.R_reads' HO402.out).2.1)
               rintro e w36 ⟨rfl, hb⟩
               refine ⟨_, rfl, ?_⟩
               have n0_ := Aside0.mk (Kd.R_below (rr_ HO_8) hb)
               have n1_ := Aside0.mk (Kd.R_below (rr_ HO402) hb)
               have n2_ := Aside0.mk (Kd.C_below (by repeat (first | (with_reducible exact HR392.out) | (with_reducible refine Kd.C_alloc ?_ _) | (with_reducible refine Kd.C_drewN ?_ _) | (with_reducible refine Kd.C_drew ?_) | exact HR392.out)) hb)
               have n3_ := Aside0.mk (Kd.C_below (by repeat (first | (with_reducible exact HR399.out) | (with_reducible refine Kd.C_alloc ?_ _) | (with_reducible refine Kd.C_drewN ?_ _) | (with_reducible refine Kd.C_drew ?_) | exact HR399.out)) hb)
               have n4_ := Aside0.mk (below_step (bb_ HB) hb)
               clear HO_8
               clear HO402
               clear HR392
               clear HR399
               clear HB
               have HO_8 := n0_
               have HO402 := n1_
               have HR392 := n2_
               have HR399 := n3_
               have HB := n4_
               clear n0_ n1_ n2_ n3_ n4_
               (try clear hb)
               (try clear hb2)
               (try clear hk)
               (try clear hi)
               refine hK.out _ _ trivial (fun hHeld => ?_)
               clear hK K
               refine norm_ (a' := ?_) ?_ ?_
               rotate_left
               ·show Act.put _ (some 60) _ = _
                simp only [Act.put, sI_, s0_, sS_, i64_w, i32_w]
                rfl
               refine done_ (done_of HT_.out (by kernel_rfl)) ?_
               try go_wp2
               go_ret
               exact ⟨by first | rfl | (simp [errW_none, errW_some] <;> rfl) | (simp only [← hji22]; first | rfl | (simp [errW_none, errW_some] <;> rfl)) | (simp [*, errW_none, errW_some] <;> rfl), by repeat (first | (with_reducible first | exact HB.out | apply below_alloc | apply pw_below_drewN | apply below_drew1) | exact HB.out)⟩
              ·replace c27 := Bool.eq_false_iff.mpr c27
               subst c27
               have H1 : (cohousinglaw30_LeakExplains.l0 k2 l0 l1 a2 t379 t381 (t381.length : Int) ji22) = some r := by rw [if_neg (show ¬ (false = true) by decide)] at H; exact H
               clear H
               have H := H1
               clear H1
               have H' := Aside0.mk H
               clear H
               try go_wp2
               have n0_ := Aside0.mk (Kd.R_drew HO_8.out)
               have n1_ := Aside0.mk (below_drew1 HB.out)
               clear HO_8
               clear HB
               have HO_8 := n0_
               have HB := n1_
               clear n0_ n1_
               have q38 : (x45_2 : Int) ≤ ((t381.length : Int) : Int) := od_
               obtain ⟨i038, hi038, _, hsz38, _⟩ := info_parts info3
               have hroom38 : t381.length ≤ co17 := (Kd.R_reads' HO_8.out).2.1
               have hC38 : Kd.C (Kd.int .i64) _ Ao17 t381.length t381 := (Kd.R_reads' HO_8.out).2.2
               have hcut38 := cut_to (P := Try.prog) 26 3 .i64 Try.underlying26 hi038 Ao17 t381.length co17 x45_2 (od_) q38 hroom38
               have hr38 := Kd.C_take (m := (x45_2 : Int).toNat) hC38 (by omega)
               have hy38 : y389.length = (x45_2 : Int).toNat := (by rw [Ny389.out, List.length_take]; omega)
               rw [← Ny389.out] at hr38
               rw [← hy38] at hcut38
               have HR392 := Aside0.mk hr38
               have HC392 := Aside0.mk (show y389.length ≤ co17 from by omega)
               clear hr38 hC38 hroom38 hi038 hsz38
               have KY38 := Aside0.mk hy38
               clear hy38
               have KL38 := Aside0.mk (show (x45_2 : Int).toNat ≤ t381.length from by omega)
               replace q38 := eq_true q38
               have q39 : ((ji22) : Int) ≤ ((t381.length : Int) : Int) := od_
               obtain ⟨i039, hi039, _, hsz39, _⟩ := info_parts info3
               have hroom39 : t381.length ≤ co17 := (Kd.R_reads' HO_8.out).2.1
               have hC39 : Kd.C (Kd.int .i64) _ Ao17 t381.length t381 := (Kd.R_reads' HO_8.out).2.2
               have q039 : (0 : Int) ≤ ((ji22) : Int) := od_
               have hcut39 := cut_from (P := Try.prog) 26 3 .i64 Try.underlying26 hi039 1 hsz39 Ao17 t381.length co17 (ji22) q039 q39
               have hr39 := Kd.C_drop (m := ((ji22) : Int).toNat) (c := co17) hC39 (by omega) hroom39
               obtain ⟨A39, hA39⟩ : ∃ A1, A1 = (if co17 = ((ji22) : Int).toNat then Ao17 else (Ao17 : Option Addr).map (·.add (((ji22) : Int).toNat * 1))) := ⟨_, rfl⟩
               obtain ⟨c39, hc39⟩ : ∃ c1, c1 = co17 - ((ji22) : Int).toNat := ⟨_, rfl⟩
               have hy39 : y396.length = t381.length - ((ji22) : Int).toNat := (by rw [Ny396.out, List.length_drop] <;> omega)
               rw [show (t381).drop ((ji22) : Int).toNat = y396 from Ny396.out.symm] at hr39
               replace hr39 : Kd.C (Kd.int .i64) _ A39 y396.length y396 := (by rw [hA39]; exact hr39)
               rw [← hy39, ← hA39, ← hc39] at hcut39
               have HR399 := Aside0.mk hr39
               have HC399 := Aside0.mk (show y396.length ≤ c39 from by rw [hy39, hc39]; exact Nat.sub_le_sub_right hroom39 _)
               clear hr39 hC39 hroom39 hi039 hsz39 hc39
               have KY39 := Aside0.mk hy39
               have KA39 := Aside0.mk hA39
               clear hy39 hA39
               have KL39 := Aside0.mk (show ((ji22) : Int).toNat ≤ t381.length from by omega)
               replace q39 := eq_true q39
               refine start_ (n := 13) (S := fun w' => True) (ds := []) #[n_, n_, n_, n_, n_, n_, n_, n_, n_, n_, n_, n_, n_] (by kernel_rfl) rfl rfl trivial (fun hHeld => ?_); refine with_tabW cohousinglaw30_LeakExplains.tab10 cohousinglaw30_LeakExplains.bits10 (fun HT_ HW_ => ?_)
               generalize wr.drew = w37 at HO_8 HB HR392 HR399 hHeld ⊢
               refine pu_ 0 48 (w_ 13 1) rfl HT_ ?_
               refine pu_ 1 49 (w_ 13 3) rfl HT_ ?_
               refine pu_ 3 51 (w_ 13 11) rfl HT_ ?_
               refine pu_ 4 52 (w_ 13 27) rfl HT_ ?_
               refine pu_ 5 53 (w_ 13 59) rfl HT_ ?_
               refine pu_ 7 55 (w_ 13 187) rfl HT_ ?_
               refine pu_ 8 56 (w_ 13 443) rfl HT_ ?_
               refine pu_ 9 57 (w_ 13 955) rfl HT_ ?_
               refine pu_ 10 58 (w_ 13 1979) rfl HT_ ?_
               refine one_ (i := 2) (N := some 50) (w_ 13 1983) rfl rfl (one_of HT_.out (by kernel_rfl)) (by decide) (fun K hK => ?_)
               refine Kd.R_lit_step (Kd.int .i64) _ 3 ?hg (N := 50) ?hd (xs := ([] : List Int)) (inner := []) (ok := fun _ => True) (okp := fun _ => True) ?hr ?hp (fun _ hk => hk) trivial (Below.refl _ _) (Nat.le_refl _) (by simp) ?_; (case hd => rfl); (case hg => rfl); (case hr => first | (go_simp; done) | (go_simp; rfl)); (case hp => exact (Reps.none _ _))
               intro v387 w40 ho41 hb hg_ hnew_
               clear hg_ hnew_
               (first | rw [← Ny386.out] at ho41 | (simp only [Int.reduceToNat] at ho41; rw [← Ny386.out] at ho41))
               have n0_ := Aside0.mk (Kd.R_elder' (rr_ HO_8) (Kd.R_base ho41) hb)
               have n1_ := Aside0.mk (Kd.R_lower (Kd.R_new' ho41 (Kd.R_lt (rr_ HO_8))) (below_size (bb_ HB)))
               have n2_ := Aside0.mk (Kd.C_below (by repeat (first | (with_reducible exact HR392.out) | (with_reducible refine Kd.C_alloc ?_ _) | (with_reducible refine Kd.C_drewN ?_ _) | (with_reducible refine Kd.C_drew ?_) | exact HR392.out)) hb)
               have n3_ := Aside0.mk (Kd.C_below (by repeat (first | (with_reducible exact HR399.out) | (with_reducible refine Kd.C_alloc ?_ _) | (with_reducible refine Kd.C_drewN ?_ _) | (with_reducible refine Kd.C_drew ?_) | exact HR399.out)) hb)
               have n4_ := Aside0.mk (below_step (bb_ HB) hb)
               clear HO_8
               clear HR392
               clear HR399
               clear HB
               have HO_8 := n0_
               have HO388 := n1_
               have HR392 := n2_
               have HR399 := n3_
               have HB := n4_
               clear n0_ n1_ n2_ n3_ n4_
               clear hb ho41
               refine hK.out _ _ trivial (fun hHeld => ?_)
               clear hK K
               refine norm_ (a' := ?_) ?_ ?_
               rotate_left
               ·show Act.put _ (some 50) _ = _
                simp only [Act.put, sI_, s0_, sS_, i64_w, i32_w]
                rfl
               refine one_ (i := 6) (N := some 54) (w_ 13 2047) rfl rfl (one_of HT_.out (by kernel_rfl)) (by decide) (fun K hK => ?_)
               refine Kd.R_append_rows_step (Kd.int .i64) (w0 := w) w.heap.size (by rfl) (.tmp 50) (.tmp 53) 26 3 (.int .i64 0) 8 rfl Try.underlying26 info3 rfl (by decide) (by omega) v387 y386 y389 _ _ _ (fun k_ => some k_ ≠ (.slice Ao17 t381.length co17 : Value).ownBlock) (fun _ => False) rfl rfl ?aO ?aR (fun _ _ h => h) (fun _ h => h.elim) ?aF ?aB ?aS ?aL ?_
               (case aR => repeat (first | exact (by repeat (first | (with_reducible exact HR392.out) | (with_reducible refine Kd.C_alloc ?_ _) | (with_reducible refine Kd.C_drewN ?_ _) | (with_reducible refine Kd.C_drew ?_) | exact HR392.out)) | (with_reducible refine Kd.C_alloc ?_ _) | (with_reducible refine Kd.C_drewN ?_ _) | (with_reducible refine Kd.C_drew ?_)))
               (case aB => exact (bb_ HB))
               (case aF => exact (fun k_ hk => Kd.fresh' (Kd.R_lt (rr_ HO_8)) k_ hk))
               (case aO => exact (by (with_reducible repeat (first | apply Kd.R_alloc | apply Kd.R_drewN | apply Kd.R_drew)); exact Kd.R_mono HO388.out (fun _ hk => hk.2)))
               (case aS => exact (below_size (bb_ HB)))
               (case aL => have := LMc21.out; omega)
               intro v394 w42 ho hb hg hat
               rw [← Ny393.out] at ho
               have n0_ := Aside0.mk (Kd.R_after (ok := (fun _ => True)) (rr_ HO_8) hg hat)
               have n1_ := Aside0.mk (hb)
               have n2_ := Aside0.mk ((show Kd.C (Kd.int .i64) w42 Ao17 y389.length y389 from by rw [Ny389.out]; exact Kd.C_take (m := (x45_2 : Int).toNat) ((Kd.R_reads' (Kd.R_after (ok := (fun _ => True)) (rr_ HO_8) hg hat)).2.2) KL38.out))
               have n3_ := Aside0.mk ((show Kd.C (Kd.int .i64) w42 A39 y396.length y396 from by rw [Ny396.out, KA39.out]; exact Kd.C_drop (m := ((ji22) : Int).toNat) (c := co17) ((Kd.R_reads' (Kd.R_after (ok := (fun _ => True)) (rr_ HO_8) hg hat)).2.2) KL39.out ((Kd.R_reads' (Kd.R_after (ok := (fun _ => True)) (rr_ HO_8) hg hat)).2.1)))
               have n4_ := Aside0.mk (ho)
               clear HO_8
               clear HB
               clear HR392
               clear HR399
               clear HO388
               have HO_8 := n0_
               have HB := n1_
               have HR392 := n2_
               have HR399 := n3_
               have HO395 := n4_
               clear n0_ n1_ n2_ n3_ n4_
               clear ho hb hg hat
               refine hK.out _ _ trivial (fun hHeld => ?_)
               clear hK K
               refine norm_ (a' := ?_) ?_ ?_
               rotate_left
               ·show Act.put _ (some 54) _ = _
                simp only [Act.put, sI_, s0_, sS_, i64_w, i32_w]
                rfl
               refine one_ (i := 11) (N := some 59) (w_ 13 4095) rfl rfl (one_of HT_.out (by kernel_rfl)) (by decide) (fun K hK => ?_)
               refine Kd.R_append_rows_step (Kd.int .i64) (w0 := w) w.heap.size (by rfl) (.tmp 54) (.tmp 58) 26 3 (.int .i64 0) 8 rfl Try.underlying26 info3 rfl (by decide) (by omega) v394 y393 y396 _ _ _ (fun k_ => some k_ ≠ (.slice Ao17 t381.length co17 : Value).ownBlock) (fun _ => False) rfl rfl ?aO ?aR (fun _ _ h => h) (fun _ h => h.elim) ?aF ?aB ?aS ?aL ?_
               (case aR => repeat (first | exact (by repeat (first | (with_reducible exact HR399.out) | (with_reducible refine Kd.C_alloc ?_ _) | (with_reducible refine Kd.C_drewN ?_ _) | (with_reducible refine Kd.C_drew ?_) | exact HR399.out)) | (with_reducible refine Kd.C_alloc ?_ _) | (with_reducible refine Kd.C_drewN ?_ _) | (with_reducible refine Kd.C_drew ?_)))
               (case aB => exact (bb_ HB))
               (case aF => exact (fun k_ hk => Kd.fresh' (Kd.R_lt (rr_ HO_8)) k_ hk))
               (case aO => exact (rr_ HO395))
               (case aS => exact (below_size (bb_ HB)))
               (case aL => have := LMc25.out; omega)
               intro v401 w43 ho hb hg hat
               rw [← Ny400.out] at ho
               have n0_ := Aside0.mk (Kd.R_after (ok := (fun _ => True)) (rr_ HO_8) hg hat)
               have n1_ := Aside0.mk (hb)
               have n2_ := Aside0.mk ((show Kd.C (Kd.int .i64) w43 Ao17 y389.length y389 from by rw [Ny389.out]; exact Kd.C_take (m := (x45_2 : Int).toNat) ((Kd.R_reads' (Kd.R_after (ok := (fun _ => True)) (rr_ HO_8) hg hat)).2.2) KL38.out))
               have n3_ := Aside0.mk ((show Kd.C (Kd.int .i64) w43 A39 y396.length y396 from by rw [Ny396.out, KA39.out]; exact Kd.C_drop (m := ((ji22) : Int).toNat) (c := co17) ((Kd.R_reads' (Kd.R_after (ok := (fun _ => True)) (rr_ HO_8) hg hat)).2.2) KL39.out ((Kd.R_reads' (Kd.R_after (ok := (fun _ => True)) (rr_ HO_8) hg hat)).2.1)))
               have n4_ := Aside0.mk (ho)
               clear HO_8
               clear HB
               clear HR392
               clear HR399
               clear HO395
               have HO_8 := n0_
               have HB := n1_
               have HR392 := n2_
               have HR399 := n3_
               have HO402 := n4_
               clear n0_ n1_ n2_ n3_ n4_
               clear ho hb hg hat
               obtain ⟨Ao44, co44, eo44⟩ := Kd.R_slice HO402.out
               (first | subst eo44 | (injection eo44 with f1_ f2_ f3_; have f4_ := f1_.symm; have f5_ := f3_.symm; clear f1_ f2_ f3_; subst f4_; subst f5_))
               refine hK.out _ _ trivial (fun hHeld => ?_)
               clear hK K
               refine norm_ (a' := ?_) ?_ ?_
               rotate_left
               ·show Act.put _ (some 59) _ = _
                simp only [Act.put, sI_, s0_, sS_, i64_w, i32_w]
                rfl
               refine one_ (i := 12) (N := some 60) (w_ 13 8191) rfl rfl (one_of HT_.out (by kernel_rfl)) (by decide) (fun K hK => ?_)
               refine goes_ Try.func19 (by kernel_rfl) rfl #[.slice A0 l0.length c0, .slice A1 l1.length c1, .slice Ao44 y400.length co44] (by rfl) rfl rfl (by (try simp only [List.map_toArray, List.map_cons, List.map_nil]); first | done | rfl | (simp only [List.length_drop, List.length_take]; rfl)) ?_
               with_reducible refine (cohousinglaw30_explains.calls k2 _ _ l0 _ _ l1 _ _ y400 false _ ?side1 ?side2 ?side3 ?side4 ?side5 ?side6 A26.out).mono ?_
               (case side1 => exact cc_ ((Kd.C_below HR0.out HB.out)))
               (case side2 => exact HC0.out)
               (case side3 => exact cc_ ((Kd.C_below HR1.out HB.out)))
               (case side4 => exact HC1.out)
               (case side5 => exact cc_ ((Kd.R_reads' HO402.out).2.2))
               (case side6 => exact (Kd.R_reads' HO402.out).2.1)
               rintro e w45 ⟨rfl, hb⟩
               refine ⟨_, rfl, ?_⟩
               have n0_ := Aside0.mk (Kd.R_below (rr_ HO_8) hb)
               have n1_ := Aside0.mk (Kd.R_below (rr_ HO402) hb)
               have n2_ := Aside0.mk (Kd.C_below (by repeat (first | (with_reducible exact HR392.out) | (with_reducible refine Kd.C_alloc ?_ _) | (with_reducible refine Kd.C_drewN ?_ _) | (with_reducible refine Kd.C_drew ?_) | exact HR392.out)) hb)
               have n3_ := Aside0.mk (Kd.C_below (by repeat (first | (with_reducible exact HR399.out) | (with_reducible refine Kd.C_alloc ?_ _) | (with_reducible refine Kd.C_drewN ?_ _) | (with_reducible refine Kd.C_drew ?_) | exact HR399.out)) hb)
               have n4_ := Aside0.mk (below_step (bb_ HB) hb)
               clear HO_8
               clear HO402
               clear HR392
               clear HR399
               clear HB
               have HO_8 := n0_
               have HO402 := n1_
               have HR392 := n2_
               have HR399 := n3_
               have HB := n4_
               clear n0_ n1_ n2_ n3_ n4_
               (try clear hb)
               (try clear hb2)
               (try clear hk)
               (try clear hi)
               refine hK.out _ _ trivial (fun hHeld => ?_)
               clear hK K
               refine norm_ (a' := ?_) ?_ ?_
               rotate_left
               ·show Act.put _ (some 60) _ = _
                simp only [Act.put, sI_, s0_, sS_, i64_w, i32_w]
                rfl
               refine done_ (done_of HT_.out (by kernel_rfl)) ?_
               try go_wp2
               go_roundg k2
               case measure => have := HJ7.out; have := HK2.out; omega
               case rel => exact ⟨(ji22), (by first | rfl | (simp; done) | (simp only [← hji22] <;> (first | rfl | simp)) | (simp [*]; done)), H', ⟨by have := HJ7.out; have := HK2.out; omega⟩, ⟨by (with_reducible repeat (first | apply Kd.R_alloc | apply Kd.R_drewN | apply Kd.R_drew)); exact Kd.R_mono HO_8.out (fun _ hk => trivial)⟩, ⟨by repeat (first | (with_reducible first | exact HB.out | apply below_alloc | apply pw_below_drewN | apply below_drew1) | exact HB.out)⟩⟩
             ·rw [if_neg c25] at H
              exact absurd H (by simp)
            ·rw [if_neg c24] at H
             exact absurd H (by simp)
           ·rw [if_neg c23] at H
            exact absurd H (by simp)
          ·rw [if_neg c21] at H
           exact absurd H (by simp)
         ·rw [if_neg c20] at H
          exact absurd H (by simp)
        ·rw [if_neg c19] at H
         exact absurd H (by simp)
       ·rw [if_neg c18] at H
        have c18b0 : decide (x45_2 < (t381.length : Int)) = false := decide_eq_false c18
        clear c18
        by_cases c46 : t379 = true
        ·subst c46
         have H1 : (if (t381.length : Int) ≤ a2 then ((cohousinglaw30_explains.f k2 l0 l1 t381).bind fun t404 => (some t404)) else (some false)) = some r := by rw [if_pos rfl] at H; exact H
         clear H
         have H := H1
         clear H1
         by_cases c47 : (t381.length : Int) ≤ a2
         ·rw [if_pos c47] at H
          have c47b0 : decide ((t381.length : Int) ≤ a2) = true := decide_eq_true c47
          clear c47
          replace H := Option.bind_eq_some_iff.mp H
          obtain ⟨t404, A480, H⟩ := H
          replace H : (some t404) = some r := H
          have A48 := Aside0.mk A480
          clear A480
          obtain rfl := Option.some.inj H
          go_wp2_with (first | (go_at_call 19; (with_reducible refine (cohousinglaw30_explains.calls k2 _ _ l0 _ _ l1 _ _ t381 t404 _ ?side1 ?side2 ?side3 ?side4 ?side5 ?side6 A48.out).mono ?_); (case side1 => exact cc_ ((Kd.C_below HR0.out HB.out))); (case side2 => exact HC0.out); (case side3 => exact cc_ ((Kd.C_below HR1.out HB.out))); (case side4 => exact HC1.out); (case side5 => exact cc_ ((Kd.R_reads' HO_8.out).2.2)); (case side6 => exact (Kd.R_reads' HO_8.out).2.1); rintro e w49 ⟨rfl, hb⟩; have n0_ := Aside0.mk (Kd.R_below (rr_ HO_8) hb); have n1_ := Aside0.mk (below_step (bb_ HB) hb); clear HO_8; clear HB; have HO_8 := n0_; have HB := n1_; clear n0_ n1_; (try clear hb); (try clear hb2); (try clear hk); (try clear hi)))
          go_ret
          exact ⟨ew_, by repeat (first | (with_reducible first | exact HB.out | apply below_alloc | apply pw_below_drewN | apply below_drew1) | exact HB.out)⟩
         ·rw [if_neg c47] at H
          have c47b0 : decide ((t381.length : Int) ≤ a2) = false := decide_eq_false c47
          clear c47
          obtain rfl := Option.some.inj H
          go_wp2
          go_ret
          exact ⟨ew_, by repeat (first | (with_reducible first | exact HB.out | apply below_alloc | apply pw_below_drewN | apply below_drew1) | exact HB.out)⟩
        ·replace c46 := Bool.eq_false_iff.mpr c46
         subst c46
         have H1 : (some false) = some r := by rw [if_neg (show ¬ (false = true) by decide)] at H; exact H
         clear H
         have H := H1
         clear H1
         obtain rfl := Option.some.inj H
         go_wp2
         go_ret
         exact ⟨ew_, by repeat (first | (with_reducible first | exact HB.out | apply below_alloc | apply pw_below_drewN | apply below_drew1) | exact HB.out)⟩
 ·replace c6 := Bool.eq_false_iff.mpr c6
  subst c6
  have H1 : (some t379) = some r := by rw [if_neg (show ¬ (false = true) by decide)] at H; exact H
  clear H
  have H := H1
  clear H1
  obtain rfl := Option.some.inj H
  go_enter Try.func4, Try.ntmps4
  go_wp2_with (first | ((with_reducible refine gate_callee (f := 11) rfl ?_); refine gl_ (some 12) Try.func11 #[] ?_; (with_reducible refine (cohousinglaw30_head.calls k  t379 _ A4.out).mono ?_); rintro e w50 ⟨rfl, hb⟩; refine ⟨_, rfl, ?_⟩; have n0_ := Aside0.mk (below_step (bb_ HB) hb); clear HB; have HB := n0_; clear n0_; (try clear hb); (try clear hb2); (try clear hk); (try clear hi)) | ((with_reducible refine gate_callee (f := 18) rfl ?_); refine gl_ (some 16) Try.func18 #[.slice A0 l0.length c0, .slice A1 l1.length c1, .int .i64 a2] ?_; (with_reducible refine (cohousinglaw30_usable.calls k _ _ l0 _ _ l1 a2 false _ ?side1 ?side2 ?side3 ?side4 A5.out).mono ?_); (case side1 => exact cc_ ((Kd.C_below HR0.out HB.out))); (case side2 => exact HC0.out); (case side3 => exact cc_ ((Kd.C_below HR1.out HB.out))); (case side4 => exact HC1.out); rintro e w51 ⟨rfl, hb⟩; refine ⟨_, rfl, ?_⟩; have n0_ := Aside0.mk (below_step (bb_ HB) hb); clear HB; have HB := n0_; clear n0_; (try clear hb); (try clear hb2); (try clear hk); (try clear hi)))
  go_ret
  exact ⟨ew_, by repeat (first | (with_reducible first | exact HB.out | apply below_alloc | apply pw_below_drewN | apply below_drew1) | exact HB.out)⟩
end
end Go.Proofs.Ytolmjhpapidmhaa.P
end
section
namespace Go.Proofs.Ytolmjhpapidmhaa.P
open Go.RowKit Go.Proofs.YtolmjhpapidmhaaW.PrintWords Go.Proofs.YtolmjhpapidmhaaW.PrintLast Go.Proofs.YtolmjhpapidmhaaW.PrintMore Go.Proofs.YtolmjhpapidmhaaH Go.Proofs.FlowTree
open Classical
section
variable (l : List PI) (r : List RG) (hl : l.length ≤ 5864062014805) (hr : r.length ≤ 140737488355328)
include hl hr
omit hl hr in
theorem explains_l (s : List Int) (t : Nat) (a : Int) (hU : U l r a) (ht : (t : Int) ≤ a) (hs : s ∈ exs l r t) (hmin : ∀ u, u < t → exs l r u = []) : ∀ d i : Nat, i + d = s.length →
  Ev (fun k => cohousinglaw30_LeakExplains.l0 k l r a true s (s.length : Int) (i : Int)) true := by
 have hsl := exs_len hs
 have hn := hU.n
 have hm := hU.m
 have ha3 := hU.a3
 intro d
 induction d with
 | zero =>
  intro i hi
  refine Ev.step ?_
  have h1 : ¬ ((i : Int) < (s.length : Int)) := by omega
  have h2 : (s.length : Int) ≤ a := by omega
  simp only [cohousinglaw30_LeakExplains.l0, h1, h2, if_true, if_false]
  refine Ev.bnd (lawExplains_f l r s hn hm (by omega)) ?_
  rw [decide_eq_true (exs_of_len hs)]
  exact Ev.pure _
 | succ d ih =>
  intro i hi
  refine Ev.step ?_
  have h1 : (i : Int) < (s.length : Int) := by omega
  have h2 : (0 : Int) ≤ (i : Int) := by omega
  have h3 : (i : Int) ≤ (s.length : Int) := by omega
  have h4 : wrap64 ((i : Int) + 1) = ((i + 1 : Nat) : Int) := wrap_nat (by omega)
  have h5 : (0 : Int) ≤ ((i + 1 : Nat) : Int) := by omega
  have h6 : ((i + 1 : Nat) : Int) ≤ (s.length : Int) := by omega
  have h7 : ([] : List Int).length + (s.take i).length < 17592186044416 := by rw [List.length_take]; simp only [List.length_nil]; omega
  have h8 : (s.take i).length + (s.drop (i + 1)).length < 17592186044416 := by rw [List.length_take, List.length_drop]; omega
  simp only [cohousinglaw30_LeakExplains.l0, h1, h2, h3, h4, h5, h6, if_true, Option.bind_some, Int.toNat_natCast, h7, List.nil_append, h8]
  refine Ev.bnd (lawExplains_f l r (s.take i ++ s.drop (i + 1)) hn hm (by rw [List.length_append, List.length_take, List.length_drop]; omega)) ?_
  have hlen : (s.take i ++ s.drop (i + 1)).length = t - 1 := by rw [List.length_append, List.length_take, List.length_drop]; omega
  rw [hlen, hmin (t - 1) (by omega), decide_eq_false (by simp)]
  simp only [Bool.false_eq_true, if_false]
  exact ih (i + 1) (by omega)
theorem explains_ (a : Int) : Ev (fun k => cohousinglaw30_LeakExplains.f k l r a) true := by
 unfold cohousinglaw30_LeakExplains.f
 refine Ev.bnd head30 ?_
 refine Ev.bnd (usable_f l r a) ?_
 by_cases hU : U l r a
 ·simp only [decide_eq_true hU, if_true, leakExplain_f l r a hl hr, Option.bind_some]
  have h := told hU
  generalize explainR l r a = x at h
  generalize sureR l r a = y at h
  cases h with
  | none hno =>
   simp only [if_true]
   refine Ev.step ?_
   simp only [cohousinglaw30_LeakExplains.j0, Bool.not_false, if_true]
   exact Ev.pure _
  | some t s rest h1 h2 h3 =>
   simp only [if_true]
   refine Ev.step ?_
   simp only [cohousinglaw30_LeakExplains.j0, Bool.not_true, Bool.false_eq_true, if_false]
   exact explains_l l r s t a hU h1 (by rw [h2]; simp) h3 s.length 0 (by omega)
 ·simp only [decide_eq_false hU, Bool.false_eq_true, if_false]
  exact Ev.pure _
end
end Go.Proofs.Ytolmjhpapidmhaa.P
end
