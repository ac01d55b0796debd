/- Part 1 of the proof of LeakSure: what it alone needs. -/
import Derived.Test.YtolmjhpapidmhaaCBe
set_option linter.unusedVariables false
set_option linter.unusedSimpArgs false
section
namespace Go.Proofs.Ytolmjhpapidmhaa.P
open Go.RowKit Go.Proofs.YtolmjhpapidmhaaW.PrintWords Go.Proofs.YtolmjhpapidmhaaW.PrintLast Go.Proofs.YtolmjhpapidmhaaW.PrintMore
attribute [local go_sem] max2_int min2_int max_two min_two max_three min_three max_four min_four
set_option linter.unusedVariables false
set_option linter.unusedSimpArgs false
set_option maxHeartbeats 8000000
set_option maxRecDepth 100000
section
mutual
def cohousinglaw30_LeakSure.j0 : Nat → List (S44) → List (S46) → Bool → List Int → Int → List Int → Int → Bool → Option (Bool)
 | 0, _, _, _, _, _, _, _, _ => none
 | k + 1, x0, x1, x7, x8, x10, x11, x12, x48 => if x48 = true then (if x7 = true then (if x10 = 0 then (if x12 = 4 then (some ((x11.length : Int) == 0)) else (some false)) else (some false)) else (some false)) else (cohousinglaw30_LeakSure.l0 k x0 x1 x7 x8 x11 x12 ([] : List Int) x8 (x8.length : Int) 0)
def cohousinglaw30_LeakSure.l0 : Nat → List (S44) → List (S46) → Bool → List Int → List Int → Int → List Int → List Int → Int → Int → Option (Bool)
 | 0, _, _, _, _, _, _, _, _, _, _ => none
 | k + 1, x0, x1, x7, x8, x11, x12, x13, x63, x64, x65 => if x65 < x64 then (if 0 ≤ x65 then (if x65 < (x63.length : Int) then (cohousinglaw30_LeakSure.l1 k x0 x1 x7 x8 x11 x12 x13 (rd x63 x65) false x63 x64 x65 (x0.length : Int) 0) else (none)) else (none)) else (if x7 = true then (if x12 = 0 then ((cohousingref30_Same.f k x11 x13).bind fun t416 => (some t416)) else (some false)) else (some false))
def cohousinglaw30_LeakSure.l1 : Nat → List (S44) → List (S46) → Bool → List Int → List Int → Int → List Int → Int → Bool → List Int → Int → Int → Int → Int → Option (Bool)
 | 0, _, _, _, _, _, _, _, _, _, _, _, _, _, _ => none
 | k + 1, x0, x1, x7, x8, x11, x12, x13, x15, x16, x63, x64, x65, x70, x71 => if x71 < x70 then (cohousinglaw30_LeakSure.l2 k x0 x1 x7 x8 x11 x12 x13 x15 x16 x71 x71 x63 x64 x65 x70 x71) else (if x16 = true then (cohousinglaw30_LeakSure.l0 k x0 x1 x7 x8 x11 x12 x13 x63 x64 (wrap64 (x65 + 1))) else (if x13.length < 17592186044416 then (cohousinglaw30_LeakSure.l0 k x0 x1 x7 x8 x11 x12 (x13 ++ [x15]) x63 x64 (wrap64 (x65 + 1))) else (none)))
def cohousinglaw30_LeakSure.l2 : Nat → List (S44) → List (S46) → Bool → List Int → List Int → Int → List Int → Int → Bool → Int → Int → List Int → Int → Int → Int → Int → Option (Bool)
 | 0, _, _, _, _, _, _, _, _, _, _, _, _, _, _, _, _ => none
 | k + 1, x0, x1, x7, x8, x11, x12, x13, x15, x16, x17, x18, x63, x64, x65, x70, x71 => if x18 < (x0.length : Int) then (cohousinglaw30_LeakSure.l3 k x0 x1 x7 x8 x11 x12 x13 x15 x16 x17 x18 x18 x63 x64 x65 x70 x71) else (cohousinglaw30_LeakSure.l1 k x0 x1 x7 x8 x11 x12 x13 x15 x16 x63 x64 x65 x70 (wrap64 (x71 + 1)))
def cohousinglaw30_LeakSure.l3 : Nat → List (S44) → List (S46) → Bool → List Int → List Int → Int → List Int → Int → Bool → Int → Int → Int → List Int → Int → Int → Int → Int → Option (Bool)
 | 0, _, _, _, _, _, _, _, _, _, _, _, _, _, _, _, _, _ => none
 | k + 1, x0, x1, x7, x8, x11, x12, x13, x15, x16, x17, x18, x19, x63, x64, x65, x70, x71 => if x19 < (x0.length : Int) then ((some (([x17] : List Int) : List Int)).bind fun y421 => (if x18 > x17 then (if y421.length < 17592186044416 then (cohousinglaw30_LeakSure.j5 k x0 x1 x7 x8 x11 x12 x13 x15 x16 x17 x18 x19 (y421 ++ [x18]) x63 x64 x65 x70 x71) else (none)) else (cohousinglaw30_LeakSure.j5 k x0 x1 x7 x8 x11 x12 x13 x15 x16 x17 x18 x19 y421 x63 x64 x65 x70 x71))) else (cohousinglaw30_LeakSure.l2 k x0 x1 x7 x8 x11 x12 x13 x15 x16 x17 (wrap64 (x18 + 1)) x63 x64 x65 x70 x71)
def cohousinglaw30_LeakSure.j5 : Nat → List (S44) → List (S46) → Bool → List Int → List Int → Int → List Int → Int → Bool → Int → Int → Int → List Int → List Int → Int → Int → Int → Int → Option (Bool)
 | 0, _, _, _, _, _, _, _, _, _, _, _, _, _, _, _, _, _, _ => none
 | k + 1, x0, x1, x7, x8, x11, x12, x13, x15, x16, x17, x18, x19, x20, x63, x64, x65, x70, x71 => if x19 > x18 then (if x20.length < 17592186044416 then (cohousinglaw30_LeakSure.j6 k x0 x1 x7 x8 x11 x12 x13 x15 x16 x17 x18 x19 (x20 ++ [x19]) x63 x64 x65 x70 x71) else (none)) else (cohousinglaw30_LeakSure.j6 k x0 x1 x7 x8 x11 x12 x13 x15 x16 x17 x18 x19 x20 x63 x64 x65 x70 x71)
def cohousinglaw30_LeakSure.j6 : Nat → List (S44) → List (S46) → Bool → List Int → List Int → Int → List Int → Int → Bool → Int → Int → Int → List Int → List Int → Int → Int → Int → Int → Option (Bool)
 | 0, _, _, _, _, _, _, _, _, _, _, _, _, _, _, _, _, _, _ => none
 | k + 1, x0, x1, x7, x8, x11, x12, x13, x15, x16, x17, x18, x19, x20, x63, x64, x65, x70, x71 => if (x20.length : Int) = (x8.length : Int) then ((cohousingref30_Has.f k x20 x15).bind fun t430 => (if t430 = true then (cohousinglaw30_LeakSure.l3 k x0 x1 x7 x8 x11 x12 x13 x15 x16 x17 x18 (wrap64 (x19 + 1)) x63 x64 x65 x70 x71) else ((cohousinglaw30_explains.f k x0 x1 x20).bind fun t431 => (if t431 = true then (cohousinglaw30_LeakSure.l3 k x0 x1 x7 x8 x11 x12 x13 x15 true x17 x18 (wrap64 (x19 + 1)) x63 x64 x65 x70 x71) else (cohousinglaw30_LeakSure.l3 k x0 x1 x7 x8 x11 x12 x13 x15 x16 x17 x18 (wrap64 (x19 + 1)) x63 x64 x65 x70 x71))))) else (cohousinglaw30_LeakSure.l3 k x0 x1 x7 x8 x11 x12 x13 x15 x16 x17 x18 (wrap64 (x19 + 1)) x63 x64 x65 x70 x71)
end
def cohousinglaw30_LeakSure.f (k : Nat) (l0 : List (S44)) (l1 : List (S46)) (a2 : Int) : Option (Bool) := (cohousinglaw30_head.f k).bind fun t405 => ((cohousinglaw30_usable.f k l0 l1 a2).bind fun t406 => (if t406 = true then ((leak_Explain.f l0 l1 a2).bind fun bt407 => ((leak_Sure.f l0 l1 a2).bind fun bt412 => (if bt407.2.2 = 0 then (cohousinglaw30_LeakSure.j0 k l0 l1 t405 bt407.1 bt407.2.2 bt412.1 bt412.2 (!bt407.2.1)) else (cohousinglaw30_LeakSure.j0 k l0 l1 t405 bt407.1 bt407.2.2 bt412.1 bt412.2 true)))) else (some t405)))
theorem cohousinglaw30_LeakSure.calls (k : Nat) (A0 : Option Addr) (c0 : Nat) (l0 : List (S44)) (A1 : Option Addr) (c1 : Nat) (l1 : List (S46)) (a2 : Int) (r : Bool) (w : World) (hr0 : Kd.C k44 w A0 l0.length l0) (hc0 : l0.length ≤ c0) (hr1 : Kd.C k46 w A1 l1.length l1) (hc1 : l1.length ≤ c1) (h : cohousinglaw30_LeakSure.f k l0 l1 a2 = some r) :
  Calls Try.prog 6 #[.slice A0 l0.length c0, .slice A1 l1.length c1, .int .i64 a2] w fun e w' => e = .returned (.bool r) ∧ Below w.heap.size w w' := by
 have HR0 := Aside0.mk hr0
 have HC0 := Aside0.mk hc0
 clear hr0 hc0
 have HR1 := Aside0.mk hr1
 have HC1 := Aside0.mk hc1
 clear hr1 hc1
 have HB := Aside0.mk (Below.refl w.heap.size w)
 have H : ((cohousinglaw30_head.f k).bind fun t405 => ((cohousinglaw30_usable.f k l0 l1 a2).bind fun t406 => (if t406 = true then ((leak_Explain.f l0 l1 a2).bind fun bt407 => ((leak_Sure.f l0 l1 a2).bind fun bt412 => (if bt407.2.2 = 0 then (cohousinglaw30_LeakSure.j0 k l0 l1 t405 bt407.1 bt407.2.2 bt412.1 bt412.2 (!bt407.2.1)) else (cohousinglaw30_LeakSure.j0 k l0 l1 t405 bt407.1 bt407.2.2 bt412.1 bt412.2 true)))) else (some t405)))) = some r := h
 clear h
 replace H := Option.bind_eq_some_iff.mp H
 obtain ⟨t405, A40, H⟩ := H
 replace H : ((cohousinglaw30_usable.f k l0 l1 a2).bind fun t406 => (if t406 = true then ((leak_Explain.f l0 l1 a2).bind fun bt407 => ((leak_Sure.f l0 l1 a2).bind fun bt412 => (if bt407.2.2 = 0 then (cohousinglaw30_LeakSure.j0 k l0 l1 t405 bt407.1 bt407.2.2 bt412.1 bt412.2 (!bt407.2.1)) else (cohousinglaw30_LeakSure.j0 k l0 l1 t405 bt407.1 bt407.2.2 bt412.1 bt412.2 true)))) else (some t405))) = some r := H
 have A4 := Aside0.mk A40
 clear A40
 replace H := Option.bind_eq_some_iff.mp H
 obtain ⟨t406, A50, H⟩ := H
 replace H : (if t406 = true then ((leak_Explain.f l0 l1 a2).bind fun bt407 => ((leak_Sure.f l0 l1 a2).bind fun bt412 => (if bt407.2.2 = 0 then (cohousinglaw30_LeakSure.j0 k l0 l1 t405 bt407.1 bt407.2.2 bt412.1 bt412.2 (!bt407.2.1)) else (cohousinglaw30_LeakSure.j0 k l0 l1 t405 bt407.1 bt407.2.2 bt412.1 bt412.2 true)))) else (some t405)) = some r := H
 have A5 := Aside0.mk A50
 clear A50
 by_cases c6 : t406 = true
 ·subst c6
  have H1 : ((leak_Explain.f l0 l1 a2).bind fun bt407 => ((leak_Sure.f l0 l1 a2).bind fun bt412 => (if bt407.2.2 = 0 then (cohousinglaw30_LeakSure.j0 k l0 l1 t405 bt407.1 bt407.2.2 bt412.1 bt412.2 (!bt407.2.1)) else (cohousinglaw30_LeakSure.j0 k l0 l1 t405 bt407.1 bt407.2.2 bt412.1 bt412.2 true)))) = some r := by rw [if_pos rfl] at H; exact H
  clear H
  have H := H1
  clear H1
  replace H := Option.bind_eq_some_iff.mp H
  obtain ⟨⟨t407, t408, t409⟩, A70, H⟩ := H
  replace H : ((leak_Sure.f l0 l1 a2).bind fun bt412 => (if t409 = 0 then (cohousinglaw30_LeakSure.j0 k l0 l1 t405 t407 t409 bt412.1 bt412.2 (!t408)) else (cohousinglaw30_LeakSure.j0 k l0 l1 t405 t407 t409 bt412.1 bt412.2 true))) = some r := H
  have A7 := Aside0.mk A70
  clear A70
  replace H := Option.bind_eq_some_iff.mp H
  obtain ⟨⟨t412, t413⟩, A80, H⟩ := H
  replace H : (if t409 = 0 then (cohousinglaw30_LeakSure.j0 k l0 l1 t405 t407 t409 t412 t413 (!t408)) else (cohousinglaw30_LeakSure.j0 k l0 l1 t405 t407 t409 t412 t413 true)) = some r := H
  have A8 := Aside0.mk A80
  clear A80
  have HC9 := Aside0.mk H
  clear H
  go_enter Try.func6, Try.ntmps6
  go_upto_region 6 with (first | ((with_reducible refine gate_callee (f := 11) rfl ?_); refine gl_ (some 21) Try.func11 #[] ?_; (with_reducible refine (cohousinglaw30_head.calls k  t405 _ A4.out).mono ?_); rintro e w10 ⟨rfl, hb⟩; refine ⟨_, rfl, ?_⟩; have n0_ := Aside0.mk (below_step (bb_ HB) hb); clear HB; have HB := n0_; clear n0_; (try clear hb); (try clear hb2); (try clear hk); (try clear hi)) | ((with_reducible refine gate_callee (f := 18) rfl ?_); refine gl_ (some 25) Try.func18 #[.slice A0 l0.length c0, .slice A1 l1.length c1, .int .i64 a2] ?_; (with_reducible refine (cohousinglaw30_usable.calls k _ _ l0 _ _ l1 a2 true _ ?side1 ?side2 ?side3 ?side4 A5.out).mono ?_); (case side1 => exact cc_ ((Kd.C_below HR0.out HB.out))); (case side2 => exact HC0.out); (case side3 => exact cc_ ((Kd.C_below HR1.out HB.out))); (case side4 => exact HC1.out); rintro e w11 ⟨rfl, hb⟩; refine ⟨_, rfl, ?_⟩; have n0_ := Aside0.mk (below_step (bb_ HB) hb); clear HB; have HB := n0_; clear n0_; (try clear hb); (try clear hb2); (try clear hk); (try clear hi)) | ((with_reducible refine gate_callee (f := 13) rfl ?_); refine gl_ (some 32) Try.func13 #[.slice A0 l0.length c0, .slice A1 l1.length c1, .int .i64 a2] ?_; (with_reducible refine (leak_Explain.calls _ _ l0 _ _ l1 a2 t407 t408 t409 _ ?side1 ?side2 ?side3 ?side4 A7.out).mono ?_); (case side1 => exact cc_ ((Kd.C_below HR0.out HB.out))); (case side2 => exact HC0.out); (case side3 => exact cc_ ((Kd.C_below HR1.out HB.out))); (case side4 => exact HC1.out); rintro e w12 ⟨v410, rfl, ho0, hb⟩; refine ⟨_, rfl, ?_⟩; have n0_ := Aside0.mk (Kd.R_lower ho0 (below_size (bb_ HB))); have n1_ := Aside0.mk (below_step (bb_ HB) hb); clear HB; have HO411 := n0_; have HB := n1_; clear n0_ n1_; (try clear hb); (try clear hb2); (try clear hk); (try clear hi); (try clear ho0)) | ((with_reducible refine gate_callee (f := 16) rfl ?_); refine gl_ (some 40) Try.func16 #[.slice A0 l0.length c0, .slice A1 l1.length c1, .int .i64 a2] ?_; (with_reducible refine (leak_Sure.calls _ _ l0 _ _ l1 a2 t412 t413 _ ?side1 ?side2 ?side3 ?side4 A8.out).mono ?_); (case side1 => exact cc_ ((Kd.C_below HR0.out HB.out))); (case side2 => exact HC0.out); (case side3 => exact cc_ ((Kd.C_below HR1.out HB.out))); (case side4 => exact HC1.out); rintro e w13 ⟨v414, rfl, ho0, hb⟩; refine ⟨_, rfl, ?_⟩; have n0_ := Aside0.mk (Kd.R_elder' (rr_ HO411) (Kd.R_base ho0) hb); have n1_ := Aside0.mk (Kd.R_lower (Kd.R_new' ho0 (Kd.R_lt (rr_ HO411))) (below_size (bb_ HB))); have n2_ := Aside0.mk (below_step (bb_ HB) hb); clear HO411; clear HB; have HO411 := n0_; have HO415 := n1_; have HB := n2_; clear n0_ n1_ n2_; (try clear hb); (try clear hb2); (try clear hk); (try clear hi); (try clear ho0)))
  (try simp only [Act.put, sI_, s0_, sS_])
  go_cut [48] (fun v48 wc => ∃ (kq : Nat) (x48_8 : Bool), v48 = .bool x48_8 ∧ Aside0 (cohousinglaw30_LeakSure.j0 kq l0 l1 t405 t407 t409 t412 t413 x48_8 = some r) ∧ Aside0 (kq ≤ k) ∧ Aside0 (Kd.R (Kd.int .i64) 3 wc w.heap.size (fun k_ => some k_ ≠ (v414 : Value).ownBlock) v410 t407) ∧ Aside0 (Kd.R (Kd.int .i64) 3 wc w.heap.size (fun k_ => some k_ ≠ (v410 : Value).ownBlock) v414 t412) ∧ Aside0 (Below w.heap.size w wc))
  case first =>
   have H := HC9.out
   clear HC9
   by_cases c14 : t409 = 0
   ·rw [if_pos c14] at H
    have c14b0 : (t409 == 0) = true := beq_iff_eq.mpr c14
    have c14b1 : (t409 != 0) = false := bne_eq_false_iff_eq.mpr c14
    clear c14
    (first | rw [c14b0] | (simp only [i64_w, i32_w]; rw [c14b0]) | skip)
    have H' := Aside0.mk H
    clear H
    go_wp2
    go_meet
    case rel => exact ⟨_, (!t408), sd_, H', ⟨by first | omega | exact Nat.le_refl _⟩, ⟨by (with_reducible repeat (first | apply Kd.R_alloc | apply Kd.R_drewN | apply Kd.R_drew)); exact Kd.R_mono HO411.out (fun _ hk => hk.2)⟩, ⟨by (with_reducible repeat (first | apply Kd.R_alloc | apply Kd.R_drewN | apply Kd.R_drew)); exact Kd.R_mono HO415.out (fun _ hk => hk.2)⟩, ⟨by repeat (first | (with_reducible first | exact HB.out | apply below_alloc | apply pw_below_drewN | apply below_drew1) | exact HB.out)⟩⟩
   ·rw [if_neg c14] at H
    have c14b0 : (t409 == 0) = false := beq_eq_false_iff_ne.mpr c14
    have c14b1 : (t409 != 0) = true := bne_iff_ne.mpr c14
    (first | rw [c14b0] | (simp only [i64_w, i32_w]; rw [c14b0]) | skip)
    have H' := Aside0.mk H
    clear H
    go_wp2
    go_meet
    case rel => exact ⟨_, (true), sd_, H', ⟨by first | omega | exact Nat.le_refl _⟩, ⟨by (with_reducible repeat (first | apply Kd.R_alloc | apply Kd.R_drewN | apply Kd.R_drew)); exact Kd.R_mono HO411.out (fun _ hk => hk.2)⟩, ⟨by (with_reducible repeat (first | apply Kd.R_alloc | apply Kd.R_drewN | apply Kd.R_drew)); exact Kd.R_mono HO415.out (fun _ hk => hk.2)⟩, ⟨by repeat (first | (with_reducible first | exact HB.out | apply below_alloc | apply pw_below_drewN | apply below_drew1) | exact HB.out)⟩⟩
  case rest =>
   clear HC9
   try clear c1
   try clear p2
   try clear c6
   try clear c11
   try clear c13
   try clear c14
   try clear c14b0
   try clear c14b1
   obtain ⟨kq, x48_8, rfl, HA, HJ8, HO_8, HO_11, HB⟩ := hcut
   cases kq with
   | zero => exact absurd HA.out (by simp [cohousinglaw30_LeakSure.j0])
   | succ kj8 =>
    have H := HA.out
    clear HA
    simp only [cohousinglaw30_LeakSure.j0] at H
    by_cases c15 : x48_8 = true
    ·subst c15
     have H1 : (if t405 = true then (if t409 = 0 then (if t413 = 4 then (some ((t412.length : Int) == 0)) else (some false)) else (some false)) else (some false)) = some r := by rw [if_pos rfl] at H; exact H
     clear H
     have H := H1
     clear H1
     by_cases c16 : t405 = true
     ·subst c16
      have H1 : (if t409 = 0 then (if t413 = 4 then (some ((t412.length : Int) == 0)) else (some false)) else (some false)) = some r := by rw [if_pos rfl] at H; exact H
      clear H
      have H := H1
      clear H1
      by_cases c17 : t409 = 0
      ·rw [if_pos c17] at H
       have c17b0 : (t409 == 0) = true := beq_iff_eq.mpr c17
       have c17b1 : (t409 != 0) = false := bne_eq_false_iff_eq.mpr c17
       clear c17
       by_cases c18 : t413 = 4
       ·rw [if_pos c18] at H
        have c18b0 : (t413 == 4) = true := beq_iff_eq.mpr c18
        have c18b1 : (t413 != 4) = false := bne_eq_false_iff_eq.mpr c18
        clear c18
        obtain rfl := Option.some.inj H
        obtain ⟨Ao19, co19, eo19⟩ := Kd.R_slice HO_11.out
        subst eo19
        go_wp2
        go_ret
        exact ⟨ew_, by repeat (first | (with_reducible first | exact HB.out | apply below_alloc | apply pw_below_drewN | apply below_drew1) | exact HB.out)⟩
       ·rw [if_neg c18] at H
        have c18b0 : (t413 == 4) = false := beq_eq_false_iff_ne.mpr c18
        have c18b1 : (t413 != 4) = true := bne_iff_ne.mpr c18
        obtain rfl := Option.some.inj H
        go_wp2
        go_ret
        exact ⟨ew_, by repeat (first | (with_reducible first | exact HB.out | apply below_alloc | apply pw_below_drewN | apply below_drew1) | exact HB.out)⟩
      ·rw [if_neg c17] at H
       have c17b0 : (t409 == 0) = false := beq_eq_false_iff_ne.mpr c17
       have c17b1 : (t409 != 0) = true := bne_iff_ne.mpr c17
       obtain rfl := Option.some.inj H
       go_wp2
       go_ret
       exact ⟨ew_, by repeat (first | (with_reducible first | exact HB.out | apply below_alloc | apply pw_below_drewN | apply below_drew1) | exact HB.out)⟩
     ·replace c16 := Bool.eq_false_iff.mpr c16
      subst c16
      have H1 : (some false) = some r := by rw [if_neg (show ¬ (false = true) by decide)] at H; exact H
      clear H
      have H := H1
      clear H1
      obtain rfl := Option.some.inj H
      go_wp2
      go_ret
      exact ⟨ew_, by repeat (first | (with_reducible first | exact HB.out | apply below_alloc | apply pw_below_drewN | apply below_drew1) | exact HB.out)⟩
    ·replace c15 := Bool.eq_false_iff.mpr c15
     subst c15
     have H1 : (cohousinglaw30_LeakSure.l0 kj8 l0 l1 t405 t407 t412 t413 ([] : List Int) t407 (t407.length : Int) 0) = some r := by rw [if_neg (show ¬ (false = true) by decide)] at H; exact H
     clear H
     have H := H1
     clear H1
     have H' := Aside0.mk H
     clear H
     obtain ⟨Ao20, co20, eo20⟩ := Kd.R_slice HO_8.out
     subst eo20
     go_wp2
     go_loopg [13, 65] kj8 (fun kq v13 v65 w' => ∃ (x13_2 : List Int) (x65_2 : Int), v65 = .int .i64 x65_2 ∧ Aside0 (cohousinglaw30_LeakSure.l0 kq l0 l1 t405 t407 t412 t413 x13_2 t407 (t407.length : Int) x65_2 = some r) ∧ Aside0 (kq ≤ kj8) ∧ Aside0 (Kd.R (Kd.int .i64) 3 w' w.heap.size (fun k_ => some k_ ≠ (v414 : Value).ownBlock ∧ some k_ ≠ (v13 : Value).ownBlock) (.slice Ao20 t407.length co20) t407) ∧ Aside0 (Kd.R (Kd.int .i64) 3 w' w.heap.size (fun k_ => some k_ ≠ ((.slice Ao20 t407.length co20) : Value).ownBlock ∧ some k_ ≠ (v13 : Value).ownBlock ∧ some k_ ≠ ((.slice Ao20 t407.length co20) : Value).ownBlock) v414 t412) ∧ Aside0 (Kd.R (Kd.int .i64) 3 w' w.heap.size (fun k_ => some k_ ≠ ((.slice Ao20 t407.length co20) : Value).ownBlock ∧ some k_ ≠ (v414 : Value).ownBlock ∧ some k_ ≠ ((.slice Ao20 t407.length co20) : Value).ownBlock) v13 x13_2) ∧ Aside0 (Kd.R (Kd.int .i64) 3 w' w.heap.size (fun k_ => some k_ ≠ (v414 : Value).ownBlock ∧ some k_ ≠ (v13 : Value).ownBlock) (.slice Ao20 t407.length co20) t407) ∧ Aside0 (Below w.heap.size w w'))
     case atStart => exact ⟨(([] : List Int)), (0), sd_, H', ⟨Nat.le_refl _⟩, ⟨by (with_reducible repeat (first | apply Kd.R_alloc | apply Kd.R_drewN | apply Kd.R_drew)); exact Kd.R_mono HO_8.out (fun _ hk => ⟨hk, (by simp [Value.ownBlock])⟩)⟩, ⟨by (with_reducible repeat (first | apply Kd.R_alloc | apply Kd.R_drewN | apply Kd.R_drew)); exact Kd.R_mono HO_11.out (fun _ hk => ⟨hk, ⟨(by simp [Value.ownBlock]), hk⟩⟩)⟩, ⟨by first | exact Kd.R_nil _ _ _ _ _ | exact Kd.N_nil _ _ _ _ _ | exact Kd.V_nil _ _ _ _ _ | exact Kd.Q_nil _ _ _ _ _ | exact Kd.S_nil _ _ _ _ _⟩, ⟨by (with_reducible repeat (first | apply Kd.R_alloc | apply Kd.R_drewN | apply Kd.R_drew)); exact Kd.R_mono HO_8.out (fun _ hk => ⟨hk, (by simp [Value.ownBlock])⟩)⟩, ⟨by repeat (first | (with_reducible first | exact HB.out | apply below_alloc | apply pw_below_drewN | apply below_drew1) | exact HB.out)⟩⟩
     case round =>
      clear H'
      try clear c1
      try clear p2
      try clear c6
      try clear c11
      try clear c13
      try clear c14
      try clear c14b0
      try clear c14b1
      try clear c15
      try clear c16
      try clear c17
      try clear c17b0
      try clear c17b1
      try clear c18
      try clear c18b0
      try clear c18b1
      try clear p2
      obtain ⟨x13_2, x65_2, rfl, HA, HK2, HO_8, HO_11, HO_13, HO_63, HB⟩ := hrel
      cases gk with
      | zero => exact absurd HA.out (by simp [cohousinglaw30_LeakSure.l0])
      | succ k2 =>
       have H := HA.out
       clear HA
       simp only [cohousinglaw30_LeakSure.l0] at H
       by_cases c21 : x65_2 < (t407.length : Int)
       ·rw [if_pos c21] at H
        have c21b0 : decide (x65_2 < (t407.length : Int)) = true := decide_eq_true c21
        clear c21
        by_cases c22 : 0 ≤ x65_2
        ·rw [if_pos c22] at H
         have c22b0 : decide (0 ≤ x65_2) = true := decide_eq_true c22
         clear c22
         by_cases c23 : x65_2 < (t407.length : Int)
         ·rw [if_pos c23] at H
          have c23b0 : decide (x65_2 < (t407.length : Int)) = true := decide_eq_true c23
          clear c23
          have H' := Aside0.mk H
          clear H
          have p417 : 0 ≤ (x65_2 : Int) := od_
          have q417 : x65_2 < (t407.length : Int) := od_
          obtain ⟨ad417, e417, hx417_0⟩ := Kd.at_int (Kd.R_reads' HO_63.out).2.2 x65_2 p417 q417
          cases e417
          replace p417 := eq_true p417
          replace q417 := eq_true q417
          go_wp2
          go_loopg [16, 71] k2 (fun kq v16 v71 w' => ∃ (x16_3 : Bool) (x71_3 : Int), v16 = .bool x16_3 ∧ v71 = .int .i64 x71_3 ∧ Aside0 (cohousinglaw30_LeakSure.l1 kq l0 l1 t405 t407 t412 t413 x13_2 (rd t407 x65_2) x16_3 t407 (t407.length : Int) x65_2 (l0.length : Int) x71_3 = some r) ∧ Aside0 (kq ≤ k2) ∧ Aside0 (Kd.R (Kd.int .i64) 3 w' w.heap.size (fun k_ => some k_ ≠ (v414 : Value).ownBlock ∧ some k_ ≠ (u13 : Value).ownBlock) (.slice (some ad417) t407.length co20) t407) ∧ Aside0 (Kd.R (Kd.int .i64) 3 w' w.heap.size (fun k_ => some k_ ≠ ((.slice (some ad417) t407.length co20) : Value).ownBlock ∧ some k_ ≠ (u13 : Value).ownBlock ∧ some k_ ≠ ((.slice (some ad417) t407.length co20) : Value).ownBlock) v414 t412) ∧ Aside0 (Kd.R (Kd.int .i64) 3 w' w.heap.size (fun k_ => some k_ ≠ ((.slice (some ad417) t407.length co20) : Value).ownBlock ∧ some k_ ≠ (v414 : Value).ownBlock ∧ some k_ ≠ ((.slice (some ad417) t407.length co20) : Value).ownBlock) u13 x13_2) ∧ Aside0 (Kd.R (Kd.int .i64) 3 w' w.heap.size (fun k_ => some k_ ≠ (v414 : Value).ownBlock ∧ some k_ ≠ (u13 : Value).ownBlock) (.slice (some ad417) t407.length co20) t407) ∧ Aside0 (Below w.heap.size w w'))
          case atStart => exact ⟨(false), (0), sd_, sd_, H', ⟨Nat.le_refl _⟩, ⟨by (with_reducible repeat (first | apply Kd.R_alloc | apply Kd.R_drewN | apply Kd.R_drew)); exact HO_8.out⟩, ⟨by (with_reducible repeat (first | apply Kd.R_alloc | apply Kd.R_drewN | apply Kd.R_drew)); exact HO_11.out⟩, ⟨by (with_reducible repeat (first | apply Kd.R_alloc | apply Kd.R_drewN | apply Kd.R_drew)); exact HO_13.out⟩, ⟨by (with_reducible repeat (first | apply Kd.R_alloc | apply Kd.R_drewN | apply Kd.R_drew)); exact HO_63.out⟩, ⟨by repeat (first | (with_reducible first | exact HB.out | apply below_alloc | apply pw_below_drewN | apply below_drew1) | exact HB.out)⟩⟩
          case round =>
           clear H'
           try clear c1
           try clear c2
           try clear p2
           try clear p4
           try clear q4
           try clear hx4
           try clear c6
           try clear c11
           try clear c13
           try clear c14
           try clear c14b0
           try clear c14b1
           try clear c15
           try clear c16
           try clear c17
           try clear c17b0
           try clear c17b1
           try clear c18
           try clear c18b0
           try clear c18b1
           try clear c21
           try clear c21b0
           try clear c22
           try clear c22b0
           try clear c23
           try clear c23b0
           try clear hx417_0
           try clear p2
           try clear p417
           try clear q417
           obtain ⟨x16_3, x71_3, rfl, rfl, HA, HK3, HO_8, HO_11, HO_13, HO_63, HB⟩ := hrel
           cases gk with
           | zero => exact absurd HA.out (by simp [cohousinglaw30_LeakSure.l1])
           | succ k3 =>
            have H := HA.out
            clear HA
            simp only [cohousinglaw30_LeakSure.l1] at H
            by_cases c24 : x71_3 < (l0.length : Int)
            ·rw [if_pos c24] at H
             have c24b0 : decide (x71_3 < (l0.length : Int)) = true := decide_eq_true c24
             clear c24
             have H' := Aside0.mk H
             clear H
             go_wp2
             go_loopg [16, 18] k3 (fun kq v16 v18 w' => ∃ (x16_4 : Bool) (x18_4 : Int), v16 = .bool x16_4 ∧ v18 = .int .i64 x18_4 ∧ Aside0 (cohousinglaw30_LeakSure.l2 kq l0 l1 t405 t407 t412 t413 x13_2 (rd t407 x65_2) x16_4 x71_3 x18_4 t407 (t407.length : Int) x65_2 (l0.length : Int) x71_3 = some r) ∧ Aside0 (kq ≤ k3) ∧ Aside0 (Kd.R (Kd.int .i64) 3 w' w.heap.size (fun k_ => some k_ ≠ (v414 : Value).ownBlock ∧ some k_ ≠ (u13 : Value).ownBlock) (.slice (some ad417) t407.length co20) t407) ∧ Aside0 (Kd.R (Kd.int .i64) 3 w' w.heap.size (fun k_ => some k_ ≠ ((.slice (some ad417) t407.length co20) : Value).ownBlock ∧ some k_ ≠ (u13 : Value).ownBlock ∧ some k_ ≠ ((.slice (some ad417) t407.length co20) : Value).ownBlock) v414 t412) ∧ Aside0 (Kd.R (Kd.int .i64) 3 w' w.heap.size (fun k_ => some k_ ≠ ((.slice (some ad417) t407.length co20) : Value).ownBlock ∧ some k_ ≠ (v414 : Value).ownBlock ∧ some k_ ≠ ((.slice (some ad417) t407.length co20) : Value).ownBlock) u13 x13_2) ∧ Aside0 (Kd.R (Kd.int .i64) 3 w' w.heap.size (fun k_ => some k_ ≠ (v414 : Value).ownBlock ∧ some k_ ≠ (u13 : Value).ownBlock) (.slice (some ad417) t407.length co20) t407) ∧ Aside0 (Below w.heap.size w w'))
             case atStart => exact ⟨(x16_3), (x71_3), sd_, sd_, H', ⟨Nat.le_refl _⟩, ⟨by (with_reducible repeat (first | apply Kd.R_alloc | apply Kd.R_drewN | apply Kd.R_drew)); exact HO_8.out⟩, ⟨by (with_reducible repeat (first | apply Kd.R_alloc | apply Kd.R_drewN | apply Kd.R_drew)); exact HO_11.out⟩, ⟨by (with_reducible repeat (first | apply Kd.R_alloc | apply Kd.R_drewN | apply Kd.R_drew)); exact HO_13.out⟩, ⟨by (with_reducible repeat (first | apply Kd.R_alloc | apply Kd.R_drewN | apply Kd.R_drew)); exact HO_63.out⟩, ⟨by repeat (first | (with_reducible first | exact HB.out | apply below_alloc | apply pw_below_drewN | apply below_drew1) | exact HB.out)⟩⟩
             case round =>
              clear H'
              try clear c1
              try clear c2
              try clear p2
              try clear p4
              try clear q4
              try clear hx4
              try clear c6
              try clear c11
              try clear c13
              try clear c14
              try clear c14b0
              try clear c14b1
              try clear c15
              try clear c16
              try clear c17
              try clear c17b0
              try clear c17b1
              try clear c18
              try clear c18b0
              try clear c18b1
              try clear c21
              try clear c21b0
              try clear c22
              try clear c22b0
              try clear c23
              try clear c23b0
              try clear c24
              try clear c24b0
              try clear hx417_0
              try clear p2
              try clear p4
              try clear p417
              try clear q4
              try clear q417
              obtain ⟨x16_4, x18_4, rfl, rfl, HA, HK4, HO_8, HO_11, HO_13, HO_63, HB⟩ := hrel
              cases gk with
              | zero => exact absurd HA.out (by simp [cohousinglaw30_LeakSure.l2])
              | succ k4 =>
               have H := HA.out
               clear HA
               simp only [cohousinglaw30_LeakSure.l2] at H
               by_cases c25 : x18_4 < (l0.length : Int)
               ·rw [if_pos c25] at H
                have c25b0 : decide (x18_4 < (l0.length : Int)) = true := decide_eq_true c25
                clear c25
                have H' := Aside0.mk H
                clear H
                go_wp2
                go_loopg [16, 19] k4 (fun kq v16 v19 w' => ∃ (x16_5 : Bool) (x19_5 : Int), v16 = .bool x16_5 ∧ v19 = .int .i64 x19_5 ∧ Aside0 (cohousinglaw30_LeakSure.l3 kq l0 l1 t405 t407 t412 t413 x13_2 (rd t407 x65_2) x16_5 x71_3 x18_4 x19_5 t407 (t407.length : Int) x65_2 (l0.length : Int) x71_3 = some r) ∧ Aside0 (kq ≤ k4) ∧ Aside0 (Kd.R (Kd.int .i64) 3 w' w.heap.size (fun k_ => some k_ ≠ (v414 : Value).ownBlock ∧ some k_ ≠ (u13 : Value).ownBlock) (.slice (some ad417) t407.length co20) t407) ∧ Aside0 (Kd.R (Kd.int .i64) 3 w' w.heap.size (fun k_ => some k_ ≠ ((.slice (some ad417) t407.length co20) : Value).ownBlock ∧ some k_ ≠ (u13 : Value).ownBlock ∧ some k_ ≠ ((.slice (some ad417) t407.length co20) : Value).ownBlock) v414 t412) ∧ Aside0 (Kd.R (Kd.int .i64) 3 w' w.heap.size (fun k_ => some k_ ≠ ((.slice (some ad417) t407.length co20) : Value).ownBlock ∧ some k_ ≠ (v414 : Value).ownBlock ∧ some k_ ≠ ((.slice (some ad417) t407.length co20) : Value).ownBlock) u13 x13_2) ∧ Aside0 (Kd.R (Kd.int .i64) 3 w' w.heap.size (fun k_ => some k_ ≠ (v414 : Value).ownBlock ∧ some k_ ≠ (u13 : Value).ownBlock) (.slice (some ad417) t407.length co20) t407) ∧ Aside0 (Below w.heap.size w w'))
                case atStart => exact ⟨(x16_4), (x18_4), sd_, sd_, H', ⟨Nat.le_refl _⟩, ⟨by (with_reducible repeat (first | apply Kd.R_alloc | apply Kd.R_drewN | apply Kd.R_drew)); exact HO_8.out⟩, ⟨by (with_reducible repeat (first | apply Kd.R_alloc | apply Kd.R_drewN | apply Kd.R_drew)); exact HO_11.out⟩, ⟨by (with_reducible repeat (first | apply Kd.R_alloc | apply Kd.R_drewN | apply Kd.R_drew)); exact HO_13.out⟩, ⟨by (with_reducible repeat (first | apply Kd.R_alloc | apply Kd.R_drewN | apply Kd.R_drew)); exact HO_63.out⟩, ⟨by repeat (first | (with_reducible first | exact HB.out | apply below_alloc | apply pw_below_drewN | apply below_drew1) | exact HB.out)⟩⟩
                case round =>
                 clear H'
                 try clear c1
                 try clear c2
                 try clear p2
                 try clear p4
                 try clear q4
                 try clear hx4
                 try clear c6
                 try clear c11
                 try clear c13
                 try clear c14
                 try clear c14b0
                 try clear c14b1
                 try clear c15
                 try clear c16
                 try clear c17
                 try clear c17b0
                 try clear c17b1
                 try clear c18
                 try clear c18b0
                 try clear c18b1
                 try clear c21
                 try clear c21b0
                 try clear c22
                 try clear c22b0
                 try clear c23
                 try clear c23b0
                 try clear c24
                 try clear c24b0
                 try clear c25
                 try clear c25b0
                 try clear hx417_0
                 try clear p2
                 try clear p4
                 try clear p417
                 try clear q4
                 try clear q417
                 obtain ⟨x16_5, x19_5, rfl, rfl, HA, HK5, HO_8, HO_11, HO_13, HO_63, HB⟩ := hrel
                 cases gk with
                 | zero => exact absurd HA.out (by simp [cohousinglaw30_LeakSure.l3])
                 | succ k5 =>
                  have H := HA.out
                  clear HA
                  simp only [cohousinglaw30_LeakSure.l3] at H
                  by_cases c26 : x19_5 < (l0.length : Int)
                  ·rw [if_pos c26] at H
                   have c26b0 : decide (x19_5 < (l0.length : Int)) = true := decide_eq_true c26
                   clear c26
                   obtain ⟨y421, hy421⟩ : ∃ y_ : List Int, y_ = (([x71_3] : List Int)) := ⟨_, rfl⟩
                   replace H : (if x18_4 > x71_3 then (if y421.length < 17592186044416 then (cohousinglaw30_LeakSure.j5 k5 l0 l1 t405 t407 t412 t413 x13_2 (rd t407 x65_2) x16_5 x71_3 x18_4 x19_5 (y421 ++ [x18_4]) t407 (t407.length : Int) x65_2 (l0.length : Int) x71_3) else (none)) else (cohousinglaw30_LeakSure.j5 k5 l0 l1 t405 t407 t412 t413 x13_2 (rd t407 x65_2) x16_5 x71_3 x18_4 x19_5 y421 t407 (t407.length : Int) x65_2 (l0.length : Int) x71_3)) = some r := by first | (rw [hy421]; with_reducible exact H) | (have H2_ := (Option.bind_some _ _).symm.trans H; rw [hy421]; with_reducible exact H2_) | (have H2_ := (Option.bind_some _ _).symm.trans H; with_reducible exact H2_) | with_reducible exact H | (rw [hy421]; exact H) | exact H
                   have Ny421 := Aside0.mk hy421
                   clear hy421
                   have HC27 := Aside0.mk H
                   clear H
                   go_upto_if 92 with (first | ((with_reducible refine gate_dst (N := 89) rfl ?_); (try (refine gate_guard (by rfl) ?_; dsimp only)); refine Kd.R_lit (Kd.int .i64) _ 3 ?hg (N := 89) ?hd (xs := ([x71_3] : List Int)) (inner := [.int .i64 x71_3]) (ok := fun _ => True) (okp := fun _ => True) ?hr ?hp (fun _ hk => hk) trivial (Below.refl _ _) (Nat.le_refl _) (by simp) ?_; (case hd => rfl); (case hg => rfl); (case hr => first | (go_simp; done) | (go_simp; rfl)); (case hp => exact (Reps.one (show Kd.M (Kd.int .i64) _ _ _ x71_3 [.int .i64 x71_3] from rfl) (Reps.none _ _))); intro v422 w28 ho29 hb hg_ hnew_; clear hg_ hnew_; (first | rw [← Ny421.out] at ho29 | (simp only [Int.reduceToNat] at ho29; rw [← Ny421.out] at ho29)); have n0_ := Aside0.mk (Kd.R_elder' (rr_ HO_8) (Kd.R_base ho29) hb); have n1_ := Aside0.mk (Kd.R_elder' (rr_ HO_11) (Kd.R_base ho29) hb); have n2_ := Aside0.mk (Kd.R_elder' (rr_ HO_13) (Kd.R_base ho29) hb); have n3_ := Aside0.mk (Kd.R_elder' (rr_ HO_63) (Kd.R_base ho29) hb); have n4_ := Aside0.mk (Kd.R_lower (Kd.R_new' (Kd.R_new' (Kd.R_new' (Kd.R_new' ho29 (Kd.R_lt (rr_ HO_8))) (Kd.R_lt (rr_ HO_11))) (Kd.R_lt (rr_ HO_13))) (Kd.R_lt (rr_ HO_63))) (below_size (bb_ HB))); have n5_ := Aside0.mk (below_step (bb_ HB) hb); clear HO_8; clear HO_11; clear HO_13; clear HO_63; clear HB; have HO_8 := n0_; have HO_11 := n1_; have HO_13 := n2_; have HO_63 := n3_; have HO423 := n4_; have HB := n5_; clear n0_ n1_ n2_ n3_ n4_ n5_; clear hb ho29))
                   (try simp only [Act.put, sI_, s0_, sS_])
                   go_cut [20] (fun v20 wc => ∃ (kq : Nat) (x20_26 : List Int), Aside0 (cohousinglaw30_LeakSure.j5 kq l0 l1 t405 t407 t412 t413 x13_2 (rd t407 x65_2) x16_5 x71_3 x18_4 x19_5 x20_26 t407 (t407.length : Int) x65_2 (l0.length : Int) x71_3 = some r) ∧ Aside0 (kq ≤ k5) ∧ Aside0 (Kd.R (Kd.int .i64) 3 wc w.heap.size (fun k_ => some k_ ≠ (v414 : Value).ownBlock ∧ some k_ ≠ (u13 : Value).ownBlock ∧ some k_ ≠ (v20 : Value).ownBlock) (.slice (some ad417) t407.length co20) t407) ∧ Aside0 (Kd.R (Kd.int .i64) 3 wc w.heap.size (fun k_ => some k_ ≠ ((.slice (some ad417) t407.length co20) : Value).ownBlock ∧ some k_ ≠ (u13 : Value).ownBlock ∧ some k_ ≠ (v20 : Value).ownBlock ∧ some k_ ≠ ((.slice (some ad417) t407.length co20) : Value).ownBlock) v414 t412) ∧ Aside0 (Kd.R (Kd.int .i64) 3 wc w.heap.size (fun k_ => some k_ ≠ ((.slice (some ad417) t407.length co20) : Value).ownBlock ∧ some k_ ≠ (v414 : Value).ownBlock ∧ some k_ ≠ (v20 : Value).ownBlock ∧ some k_ ≠ ((.slice (some ad417) t407.length co20) : Value).ownBlock) u13 x13_2) ∧ Aside0 (Kd.R (Kd.int .i64) 3 wc w.heap.size (fun k_ => some k_ ≠ ((.slice (some ad417) t407.length co20) : Value).ownBlock ∧ some k_ ≠ (v414 : Value).ownBlock ∧ some k_ ≠ (u13 : Value).ownBlock ∧ some k_ ≠ ((.slice (some ad417) t407.length co20) : Value).ownBlock) v20 x20_26) ∧ Aside0 (Kd.R (Kd.int .i64) 3 wc w.heap.size (fun k_ => some k_ ≠ (v414 : Value).ownBlock ∧ some k_ ≠ (u13 : Value).ownBlock ∧ some k_ ≠ (v20 : Value).ownBlock) (.slice (some ad417) t407.length co20) t407) ∧ Aside0 (Below w.heap.size w wc))
                   case first =>
                    have H := HC27.out
                    clear HC27
                    by_cases c30 : x18_4 > x71_3
                    ·rw [if_pos c30] at H
                     have c30b0 : decide (x71_3 < x18_4) = true := decide_eq_true c30
                     clear c30
                     (first | rw [c30b0] | (simp only [i64_w, i32_w]; rw [c30b0]) | skip)
                     by_cases c31 : y421.length < 17592186044416
                     ·rw [if_pos c31] at H
                      have LMc31 := Aside0.mk c31
                      clear c31
                      obtain ⟨y424, hy424⟩ : ∃ y_ : List Int, y_ = (y421 ++ [x18_4]) := ⟨_, rfl⟩
                      replace H : (cohousinglaw30_LeakSure.j5 k5 l0 l1 t405 t407 t412 t413 x13_2 (rd t407 x65_2) x16_5 x71_3 x18_4 x19_5 y424 t407 (t407.length : Int) x65_2 (l0.length : Int) x71_3) = some r := by first | (rw [hy424]; with_reducible exact H) | (have H2_ := (Option.bind_some _ _).symm.trans H; rw [hy424]; with_reducible exact H2_) | (have H2_ := (Option.bind_some _ _).symm.trans H; with_reducible exact H2_) | with_reducible exact H | (rw [hy424]; exact H) | exact H
                      have Ny424 := Aside0.mk hy424
                      clear hy424
                      have H' := Aside0.mk H
                      clear H
                      go_wp2_with (first | ((with_reducible refine gate_builtin (b := .append) (xs := #[.tmp 93, .tmp 95]) rfl ?_); (try (refine gate_guard (by rfl) ?_; dsimp only)); at_builtin; refine Kd.R_append (Kd.int .i64) (w0 := w) w.heap.size rfl (.tmp 93) (.tmp 95) 26 3 (.int .i64 0) 8 rfl Try.underlying26 info3 rfl (by decide) (by omega) v422 y421 x18_4 [.int .i64 x18_4] (fun k_ => some k_ ≠ (.slice (some ad417) t407.length co20 : Value).ownBlock ∧ some k_ ≠ (v414 : Value).ownBlock ∧ some k_ ≠ (u13 : Value).ownBlock ∧ some k_ ≠ (.slice (some ad417) t407.length co20 : Value).ownBlock) (fun _ => False) rfl rfl ?aP (fun _ hk => hk.elim) ?aF ?aO ?aB ?aS ?aL ?_; (case aP => exact rfl); (case aB => exact (bb_ HB)); (case aF => exact (fun k_ hk => ⟨Kd.fresh' (Kd.R_lt (rr_ HO_8)) k_ hk, Kd.fresh' (Kd.R_lt (rr_ HO_11)) k_ hk, Kd.fresh' (Kd.R_lt (rr_ HO_13)) k_ hk, Kd.fresh' (Kd.R_lt (rr_ HO_63)) k_ hk⟩)); (case aO => exact (by (with_reducible repeat (first | apply Kd.R_alloc | apply Kd.R_drewN | apply Kd.R_drew)); exact Kd.R_mono HO423.out (fun _ hk => ⟨hk.1.1.1.2, ⟨hk.1.1.2, ⟨hk.1.2, hk.2⟩⟩⟩))); (case aS => exact (below_size (bb_ HB))); (case aL => have := LMc31.out; omega); intro v425 w32 ho hb hg hat; rw [← Ny424.out] at ho; have n0_ := Aside0.mk (Kd.R_after (ok := (fun k_ => some k_ ≠ (v414 : Value).ownBlock ∧ some k_ ≠ (u13 : Value).ownBlock)) (rr_ HO_8) hg hat); have n1_ := Aside0.mk (Kd.R_after (ok := (fun k_ => some k_ ≠ (.slice (some ad417) t407.length co20 : Value).ownBlock ∧ some k_ ≠ (u13 : Value).ownBlock ∧ some k_ ≠ (.slice (some ad417) t407.length co20 : Value).ownBlock)) (rr_ HO_11) hg hat); have n2_ := Aside0.mk (Kd.R_after (ok := (fun k_ => some k_ ≠ (.slice (some ad417) t407.length co20 : Value).ownBlock ∧ some k_ ≠ (v414 : Value).ownBlock ∧ some k_ ≠ (.slice (some ad417) t407.length co20 : Value).ownBlock)) (rr_ HO_13) hg hat); have n3_ := Aside0.mk (Kd.R_after (ok := (fun k_ => some k_ ≠ (v414 : Value).ownBlock ∧ some k_ ≠ (u13 : Value).ownBlock)) (rr_ HO_63) hg hat); have n4_ := Aside0.mk (hb); have n5_ := Aside0.mk (ho); clear HO_8; clear HO_11; clear HO_13; clear HO_63; clear HB; clear HO423; have HO_8 := n0_; have HO_11 := n1_; have HO_13 := n2_; have HO_63 := n3_; have HB := n4_; have HO426 := n5_; clear n0_ n1_ n2_ n3_ n4_ n5_; clear ho hb hg hat))
                      go_meet
                      case rel => exact ⟨_, (y424), H', ⟨by have := HJ8.out; have := HK2.out; have := HK3.out; have := HK4.out; have := HK5.out; first | omega | exact Nat.le_refl _⟩, ⟨by (with_reducible repeat (first | apply Kd.R_alloc | apply Kd.R_drewN | apply Kd.R_drew)); exact Kd.R_mono HO_8.out (fun _ hk => ⟨hk.1.1, ⟨hk.1.2, hk.2⟩⟩)⟩, ⟨by (with_reducible repeat (first | apply Kd.R_alloc | apply Kd.R_drewN | apply Kd.R_drew)); exact Kd.R_mono HO_11.out (fun _ hk => ⟨hk.1.1, ⟨hk.1.2.1, ⟨hk.2, hk.1.2.2⟩⟩⟩)⟩, ⟨by (with_reducible repeat (first | apply Kd.R_alloc | apply Kd.R_drewN | apply Kd.R_drew)); exact Kd.R_mono HO_13.out (fun _ hk => ⟨hk.1.1, ⟨hk.1.2.1, ⟨hk.2, hk.1.2.2⟩⟩⟩)⟩, ⟨by (with_reducible repeat (first | apply Kd.R_alloc | apply Kd.R_drewN | apply Kd.R_drew)); exact HO426.out⟩, ⟨by (with_reducible repeat (first | apply Kd.R_alloc | apply Kd.R_drewN | apply Kd.R_drew)); exact Kd.R_mono HO_63.out (fun _ hk => ⟨hk.1.1, ⟨hk.1.2, hk.2⟩⟩)⟩, ⟨by repeat (first | (with_reducible first | exact HB.out | apply below_alloc | apply pw_below_drewN | apply below_drew1) | exact HB.out)⟩⟩
                     ·rw [if_neg c31] at H
                      exact absurd H (by simp)
                    ·rw [if_neg c30] at H
                     have c30b0 : decide (x71_3 < x18_4) = false := decide_eq_false c30
                     clear c30
                     (first | rw [c30b0] | (simp only [i64_w, i32_w]; rw [c30b0]) | skip)
                     have H' := Aside0.mk H
                     clear H
                     go_wp2
                     go_meet
                     case rel => exact ⟨_, (y421), H', ⟨by have := HJ8.out; have := HK2.out; have := HK3.out; have := HK4.out; have := HK5.out; first | omega | exact Nat.le_refl _⟩, ⟨by (with_reducible repeat (first | apply Kd.R_alloc | apply Kd.R_drewN | apply Kd.R_drew)); exact Kd.R_mono HO_8.out (fun _ hk => ⟨hk.1.1, ⟨hk.1.2, hk.2⟩⟩)⟩, ⟨by (with_reducible repeat (first | apply Kd.R_alloc | apply Kd.R_drewN | apply Kd.R_drew)); exact Kd.R_mono HO_11.out (fun _ hk => ⟨hk.1.1, ⟨hk.1.2.1, ⟨hk.2, hk.1.2.2⟩⟩⟩)⟩, ⟨by (with_reducible repeat (first | apply Kd.R_alloc | apply Kd.R_drewN | apply Kd.R_drew)); exact Kd.R_mono HO_13.out (fun _ hk => ⟨hk.1.1, ⟨hk.1.2.1, ⟨hk.2, hk.1.2.2⟩⟩⟩)⟩, ⟨by (with_reducible repeat (first | apply Kd.R_alloc | apply Kd.R_drewN | apply Kd.R_drew)); exact Kd.R_mono HO423.out (fun _ hk => ⟨hk.1.1.1.2, ⟨hk.1.1.2, ⟨hk.1.2, hk.2⟩⟩⟩)⟩, ⟨by (with_reducible repeat (first | apply Kd.R_alloc | apply Kd.R_drewN | apply Kd.R_drew)); exact Kd.R_mono HO_63.out (fun _ hk => ⟨hk.1.1, ⟨hk.1.2, hk.2⟩⟩)⟩, ⟨by repeat (first | (with_reducible first | exact HB.out | apply below_alloc | apply pw_below_drewN | apply below_drew1) | exact HB.out)⟩⟩
                   case rest =>
                    clear HC27
                    try clear c1
                    try clear c2
                    try clear p2
                    try clear c3
                    try clear p4
                    try clear q4
                    try clear hx4
                    try clear c6
                    try clear c11
                    try clear c13
                    try clear c14
                    try clear c14b0
                    try clear c14b1
                    try clear c15
                    try clear c16
                    try clear c17
                    try clear c17b0
                    try clear c17b1
                    try clear c18
                    try clear c18b0
                    try clear c18b1
                    try clear c21
                    try clear c21b0
                    try clear c22
                    try clear c22b0
                    try clear c23
                    try clear c23b0
                    try clear c24
                    try clear c24b0
                    try clear c25
                    try clear c25b0
                    try clear c26
                    try clear c26b0
                    try clear c30
                    try clear c30b0
                    try clear c31
                    try clear hx417_0
                    try clear p2
                    try clear p4
                    try clear p417
                    try clear q4
                    try clear q417
                    obtain ⟨kq, x20_26, HA, HJ26, HO_8, HO_11, HO_13, HO_20, HO_63, HB⟩ := hcut
                    cases kq with
                    | zero => exact absurd HA.out (by simp [cohousinglaw30_LeakSure.j5])
                    | succ kj26 =>
                     have H := HA.out
                     clear HA
                     simp only [cohousinglaw30_LeakSure.j5] at H
                     have HC33 := Aside0.mk H
                     clear H
                     go_upto_if 99 with (fail)
                     go_cut [20] (fun v20 wc => ∃ (kq : Nat) (x20_32 : List Int), Aside0 (cohousinglaw30_LeakSure.j6 kq l0 l1 t405 t407 t412 t413 x13_2 (rd t407 x65_2) x16_5 x71_3 x18_4 x19_5 x20_32 t407 (t407.length : Int) x65_2 (l0.length : Int) x71_3 = some r) ∧ Aside0 (kq ≤ kj26) ∧ Aside0 (Kd.R (Kd.int .i64) 3 wc w.heap.size (fun k_ => some k_ ≠ (v414 : Value).ownBlock ∧ some k_ ≠ (u13 : Value).ownBlock ∧ some k_ ≠ (v20 : Value).ownBlock) (.slice (some ad417) t407.length co20) t407) ∧ Aside0 (Kd.R (Kd.int .i64) 3 wc w.heap.size (fun k_ => some k_ ≠ ((.slice (some ad417) t407.length co20) : Value).ownBlock ∧ some k_ ≠ (u13 : Value).ownBlock ∧ some k_ ≠ (v20 : Value).ownBlock ∧ some k_ ≠ ((.slice (some ad417) t407.length co20) : Value).ownBlock) v414 t412) ∧ Aside0 (Kd.R (Kd.int .i64) 3 wc w.heap.size (fun k_ => some k_ ≠ ((.slice (some ad417) t407.length co20) : Value).ownBlock ∧ some k_ ≠ (v414 : Value).ownBlock ∧ some k_ ≠ (v20 : Value).ownBlock ∧ some k_ ≠ ((.slice (some ad417) t407.length co20) : Value).ownBlock) u13 x13_2) ∧ Aside0 (Kd.R (Kd.int .i64) 3 wc w.heap.size (fun k_ => some k_ ≠ ((.slice (some ad417) t407.length co20) : Value).ownBlock ∧ some k_ ≠ (v414 : Value).ownBlock ∧ some k_ ≠ (u13 : Value).ownBlock ∧ some k_ ≠ ((.slice (some ad417) t407.length co20) : Value).ownBlock) v20 x20_32) ∧ Aside0 (Kd.R (Kd.int .i64) 3 wc w.heap.size (fun k_ => some k_ ≠ (v414 : Value).ownBlock ∧ some k_ ≠ (u13 : Value).ownBlock ∧ some k_ ≠ (v20 : Value).ownBlock) (.slice (some ad417) t407.length co20) t407) ∧ Aside0 (Below w.heap.size w wc))
                     case first =>
                      have H := HC33.out
                      clear HC33
                      by_cases c34 : x19_5 > x18_4
                      ·rw [if_pos c34] at H
                       have c34b0 : decide (x18_4 < x19_5) = true := decide_eq_true c34
                       clear c34
                       (first | rw [c34b0] | (simp only [i64_w, i32_w]; rw [c34b0]) | skip)
                       by_cases c35 : x20_26.length < 17592186044416
                       ·rw [if_pos c35] at H
                        have LMc35 := Aside0.mk c35
                        clear c35
                        obtain ⟨y427, hy427⟩ : ∃ y_ : List Int, y_ = (x20_26 ++ [x19_5]) := ⟨_, rfl⟩
                        replace H : (cohousinglaw30_LeakSure.j6 kj26 l0 l1 t405 t407 t412 t413 x13_2 (rd t407 x65_2) x16_5 x71_3 x18_4 x19_5 y427 t407 (t407.length : Int) x65_2 (l0.length : Int) x71_3) = some r := by first | (rw [hy427]; with_reducible exact H) | (have H2_ := (Option.bind_some _ _).symm.trans H; rw [hy427]; with_reducible exact H2_) | (have H2_ := (Option.bind_some _ _).symm.trans H; with_reducible exact H2_) | with_reducible exact H | (rw [hy427]; exact H) | exact H
                        have Ny427 := Aside0.mk hy427
                        clear hy427
                        have H' := Aside0.mk H
                        clear H
                        go_wp2_with (first | ((with_reducible refine gate_builtin (b := .append) (xs := #[.tmp 100, .tmp 102]) rfl ?_); (try (refine gate_guard (by rfl) ?_; dsimp only)); at_builtin; refine Kd.R_append (Kd.int .i64) (w0 := w) w.heap.size rfl (.tmp 100) (.tmp 102) 26 3 (.int .i64 0) 8 rfl Try.underlying26 info3 rfl (by decide) (by omega) u20 x20_26 x19_5 [.int .i64 x19_5] (fun k_ => some k_ ≠ (.slice (some ad417) t407.length co20 : Value).ownBlock ∧ some k_ ≠ (v414 : Value).ownBlock ∧ some k_ ≠ (u13 : Value).ownBlock ∧ some k_ ≠ (.slice (some ad417) t407.length co20 : Value).ownBlock) (fun _ => False) rfl rfl ?aP (fun _ hk => hk.elim) ?aF ?aO ?aB ?aS ?aL ?_; (case aP => exact rfl); (case aB => exact (bb_ HB)); (case aF => exact (fun k_ hk => ⟨Kd.fresh' (Kd.R_lt (rr_ HO_8)) k_ hk, Kd.fresh' (Kd.R_lt (rr_ HO_11)) k_ hk, Kd.fresh' (Kd.R_lt (rr_ HO_13)) k_ hk, Kd.fresh' (Kd.R_lt (rr_ HO_63)) k_ hk⟩)); (case aO => exact (rr_ HO_20)); (case aS => exact (below_size (bb_ HB))); (case aL => have := LMc35.out; omega); intro v428 w36 ho hb hg hat; rw [← Ny427.out] at ho; have n0_ := Aside0.mk (Kd.R_after (ok := (fun k_ => some k_ ≠ (v414 : Value).ownBlock ∧ some k_ ≠ (u13 : Value).ownBlock)) (by (with_reducible repeat (first | apply Kd.R_alloc | apply Kd.R_drewN | apply Kd.R_drew)); exact Kd.R_mono HO_8.out (fun _ hk => ⟨⟨hk.1, hk.2.1⟩, hk.2.2⟩)) hg hat); have n1_ := Aside0.mk (Kd.R_after (ok := (fun k_ => some k_ ≠ (.slice (some ad417) t407.length co20 : Value).ownBlock ∧ some k_ ≠ (u13 : Value).ownBlock ∧ some k_ ≠ (.slice (some ad417) t407.length co20 : Value).ownBlock)) (by (with_reducible repeat (first | apply Kd.R_alloc | apply Kd.R_drewN | apply Kd.R_drew)); exact Kd.R_mono HO_11.out (fun _ hk => ⟨⟨hk.1, ⟨hk.2.1, hk.2.2.2⟩⟩, hk.2.2.1⟩)) hg hat); have n2_ := Aside0.mk (Kd.R_after (ok := (fun k_ => some k_ ≠ (.slice (some ad417) t407.length co20 : Value).ownBlock ∧ some k_ ≠ (v414 : Value).ownBlock ∧ some k_ ≠ (.slice (some ad417) t407.length co20 : Value).ownBlock)) (by (with_reducible repeat (first | apply Kd.R_alloc | apply Kd.R_drewN | apply Kd.R_drew)); exact Kd.R_mono HO_13.out (fun _ hk => ⟨⟨hk.1, ⟨hk.2.1, hk.2.2.2⟩⟩, hk.2.2.1⟩)) hg hat); have n3_ := Aside0.mk (Kd.R_after (ok := (fun k_ => some k_ ≠ (v414 : Value).ownBlock ∧ some k_ ≠ (u13 : Value).ownBlock)) (by (with_reducible repeat (first | apply Kd.R_alloc | apply Kd.R_drewN | apply Kd.R_drew)); exact Kd.R_mono HO_63.out (fun _ hk => ⟨⟨hk.1, hk.2.1⟩, hk.2.2⟩)) hg hat); have n4_ := Aside0.mk (hb); have n5_ := Aside0.mk (ho); clear HO_8; clear HO_11; clear HO_13; clear HO_63; clear HB; clear HO_20; have HO_8 := n0_; have HO_11 := n1_; have HO_13 := n2_; have HO_63 := n3_; have HB := n4_; have HO429 := n5_; clear n0_ n1_ n2_ n3_ n4_ n5_; clear ho hb hg hat))
                        go_meet
                        case rel => exact ⟨_, (y427), H', ⟨by have := HJ8.out; have := HK2.out; have := HK3.out; have := HK4.out; have := HK5.out; have := HJ26.out; first | omega | exact Nat.le_refl _⟩, ⟨by (with_reducible repeat (first | apply Kd.R_alloc | apply Kd.R_drewN | apply Kd.R_drew)); exact Kd.R_mono HO_8.out (fun _ hk => ⟨hk.1.1, ⟨hk.1.2, hk.2⟩⟩)⟩, ⟨by (with_reducible repeat (first | apply Kd.R_alloc | apply Kd.R_drewN | apply Kd.R_drew)); exact Kd.R_mono HO_11.out (fun _ hk => ⟨hk.1.1, ⟨hk.1.2.1, ⟨hk.2, hk.1.2.2⟩⟩⟩)⟩, ⟨by (with_reducible repeat (first | apply Kd.R_alloc | apply Kd.R_drewN | apply Kd.R_drew)); exact Kd.R_mono HO_13.out (fun _ hk => ⟨hk.1.1, ⟨hk.1.2.1, ⟨hk.2, hk.1.2.2⟩⟩⟩)⟩, ⟨by (with_reducible repeat (first | apply Kd.R_alloc | apply Kd.R_drewN | apply Kd.R_drew)); exact HO429.out⟩, ⟨by (with_reducible repeat (first | apply Kd.R_alloc | apply Kd.R_drewN | apply Kd.R_drew)); exact Kd.R_mono HO_63.out (fun _ hk => ⟨hk.1.1, ⟨hk.1.2, hk.2⟩⟩)⟩, ⟨by repeat (first | (with_reducible first | exact HB.out | apply below_alloc | apply pw_below_drewN | apply below_drew1) | exact HB.out)⟩⟩
                       ·rw [if_neg c35] at H
                        exact absurd H (by simp)
                      ·rw [if_neg c34] at H
                       have c34b0 : decide (x18_4 < x19_5) = false := decide_eq_false c34
                       clear c34
                       (first | rw [c34b0] | (simp only [i64_w, i32_w]; rw [c34b0]) | skip)
                       have H' := Aside0.mk H
                       clear H
                       go_wp2
                       go_meet
                       case rel => exact ⟨_, (x20_26), H', ⟨by have := HJ8.out; have := HK2.out; have := HK3.out; have := HK4.out; have := HK5.out; have := HJ26.out; first | omega | exact Nat.le_refl _⟩, ⟨by (with_reducible repeat (first | apply Kd.R_alloc | apply Kd.R_drewN | apply Kd.R_drew)); exact HO_8.out⟩, ⟨by (with_reducible repeat (first | apply Kd.R_alloc | apply Kd.R_drewN | apply Kd.R_drew)); exact HO_11.out⟩, ⟨by (with_reducible repeat (first | apply Kd.R_alloc | apply Kd.R_drewN | apply Kd.R_drew)); exact HO_13.out⟩, ⟨by (with_reducible repeat (first | apply Kd.R_alloc | apply Kd.R_drewN | apply Kd.R_drew)); exact HO_20.out⟩, ⟨by (with_reducible repeat (first | apply Kd.R_alloc | apply Kd.R_drewN | apply Kd.R_drew)); exact HO_63.out⟩, ⟨by repeat (first | (with_reducible first | exact HB.out | apply below_alloc | apply pw_below_drewN | apply below_drew1) | exact HB.out)⟩⟩
                     case rest =>
                      clear HC33
                      try clear c1
                      try clear c2
                      try clear p2
                      try clear c3
                      try clear p4
                      try clear q4
                      try clear hx4
                      try clear c6
                      try clear c11
                      try clear c13
                      try clear c14
                      try clear c14b0
                      try clear c14b1
                      try clear c15
                      try clear c16
                      try clear c17
                      try clear c17b0
                      try clear c17b1
                      try clear c18
                      try clear c18b0
                      try clear c18b1
                      try clear c21
                      try clear c21b0
                      try clear c22
                      try clear c22b0
                      try clear c23
                      try clear c23b0
                      try clear c24
                      try clear c24b0
                      try clear c25
                      try clear c25b0
                      try clear c26
                      try clear c26b0
                      try clear c30
                      try clear c30b0
                      try clear c31
                      try clear c34
                      try clear c34b0
                      try clear c35
                      try clear hx417_0
                      try clear p2
                      try clear p4
                      try clear p417
                      try clear q4
                      try clear q417
                      obtain ⟨kq, x20_32, HA, HJ32, HO_8, HO_11, HO_13, HO_20, HO_63, HB⟩ := hcut
                      cases kq with
                      | zero => exact absurd HA.out (by simp [cohousinglaw30_LeakSure.j6])
                      | succ kj32 =>
                       have H := HA.out
                       clear HA
                       simp only [cohousinglaw30_LeakSure.j6] at H
                       by_cases c37 : (x20_32.length : Int) = (t407.length : Int)
                       ·rw [if_pos c37] at H
                        have c37b0 : ((x20_32.length : Int) == (t407.length : Int)) = true := beq_iff_eq.mpr c37
                        have c37b1 : ((x20_32.length : Int) != (t407.length : Int)) = false := bne_eq_false_iff_eq.mpr c37
                        have c37b2 : (x20_32.length == t407.length) = true := by first | simpa using c37 | (simp at c37 ⊢; omega)
                        clear c37
                        replace H := Option.bind_eq_some_iff.mp H
                        obtain ⟨t430, A380, H⟩ := H
                        replace H : (if t430 = true then (cohousinglaw30_LeakSure.l3 kj32 l0 l1 t405 t407 t412 t413 x13_2 (rd t407 x65_2) x16_5 x71_3 x18_4 (wrap64 (x19_5 + 1)) t407 (t407.length : Int) x65_2 (l0.length : Int) x71_3) else ((cohousinglaw30_explains.f kj32 l0 l1 x20_32).bind fun t431 => (if t431 = true then (cohousinglaw30_LeakSure.l3 kj32 l0 l1 t405 t407 t412 t413 x13_2 (rd t407 x65_2) true x71_3 x18_4 (wrap64 (x19_5 + 1)) t407 (t407.length : Int) x65_2 (l0.length : Int) x71_3) else (cohousinglaw30_LeakSure.l3 kj32 l0 l1 t405 t407 t412 t413 x13_2 (rd t407 x65_2) x16_5 x71_3 x18_4 (wrap64 (x19_5 + 1)) t407 (t407.length : Int) x65_2 (l0.length : Int) x71_3)))) = some r := H
                        have A38 := Aside0.mk A380
                        clear A380
                        by_cases c39 : t430 = true
                        ·subst c39
                         have H1 : (cohousinglaw30_LeakSure.l3 kj32 l0 l1 t405 t407 t412 t413 x13_2 (rd t407 x65_2) x16_5 x71_3 x18_4 (wrap64 (x19_5 + 1)) t407 (t407.length : Int) x65_2 (l0.length : Int) x71_3) = some r := by rw [if_pos rfl] at H; exact H
                         clear H
                         have H := H1
                         clear H1
                         have H' := Aside0.mk H
                         clear H
                         obtain ⟨Ao40, co40, eo40⟩ := Kd.R_slice HO_20.out
                         subst eo40
                         go_wp2_with (first | (go_at_call 21; (with_reducible refine (cohousingref30_Has.calls kj32 _ _ x20_32 (rd t407 x65_2) true _ ?side1 ?side2 A38.out).mono ?_); (case side1 => exact cc_ ((Kd.R_reads' HO_20.out).2.2)); (case side2 => exact (Kd.R_reads' HO_20.out).2.1); rintro e w' ⟨rfl, ⟨nd, rfl⟩⟩))
                         go_roundg kj32
                         case measure => have := HJ8.out; have := HK2.out; have := HK3.out; have := HK4.out; have := HK5.out; have := HJ26.out; have := HJ32.out; omega
                         case rel => exact ⟨(x16_5), (wrap64 (x19_5 + 1)), sd_, sd_, H', ⟨by have := HJ8.out; have := HK2.out; have := HK3.out; have := HK4.out; have := HK5.out; have := HJ26.out; have := HJ32.out; omega⟩, ⟨by (with_reducible repeat (first | apply Kd.R_alloc | apply Kd.R_drewN | apply Kd.R_drew)); exact Kd.R_mono HO_8.out (fun _ hk => ⟨hk.1, hk.2.1⟩)⟩, ⟨by (with_reducible repeat (first | apply Kd.R_alloc | apply Kd.R_drewN | apply Kd.R_drew)); exact Kd.R_mono HO_11.out (fun _ hk => ⟨hk.1, ⟨hk.2.1, hk.2.2.2⟩⟩)⟩, ⟨by (with_reducible repeat (first | apply Kd.R_alloc | apply Kd.R_drewN | apply Kd.R_drew)); exact Kd.R_mono HO_13.out (fun _ hk => ⟨hk.1, ⟨hk.2.1, hk.2.2.2⟩⟩)⟩, ⟨by (with_reducible repeat (first | apply Kd.R_alloc | apply Kd.R_drewN | apply Kd.R_drew)); exact Kd.R_mono HO_63.out (fun _ hk => ⟨hk.1, hk.2.1⟩)⟩, ⟨by repeat (first | (with_reducible first | exact HB.out | apply below_alloc | apply pw_below_drewN | apply below_drew1) | exact HB.out)⟩⟩
                        ·replace c39 := Bool.eq_false_iff.mpr c39
                         subst c39
                         have H1 : ((cohousinglaw30_explains.f kj32 l0 l1 x20_32).bind fun t431 => (if t431 = true then (cohousinglaw30_LeakSure.l3 kj32 l0 l1 t405 t407 t412 t413 x13_2 (rd t407 x65_2) true x71_3 x18_4 (wrap64 (x19_5 + 1)) t407 (t407.length : Int) x65_2 (l0.length : Int) x71_3) else (cohousinglaw30_LeakSure.l3 kj32 l0 l1 t405 t407 t412 t413 x13_2 (rd t407 x65_2) x16_5 x71_3 x18_4 (wrap64 (x19_5 + 1)) t407 (t407.length : Int) x65_2 (l0.length : Int) x71_3))) = some r := by rw [if_neg (show ¬ (false = true) by decide)] at H; exact H
                         clear H
                         have H := H1
                         clear H1
                         replace H := Option.bind_eq_some_iff.mp H
                         obtain ⟨t431, A410, H⟩ := H
                         replace H : (if t431 = true then (cohousinglaw30_LeakSure.l3 kj32 l0 l1 t405 t407 t412 t413 x13_2 (rd t407 x65_2) true x71_3 x18_4 (wrap64 (x19_5 + 1)) t407 (t407.length : Int) x65_2 (l0.length : Int) x71_3) else (cohousinglaw30_LeakSure.l3 kj32 l0 l1 t405 t407 t412 t413 x13_2 (rd t407 x65_2) x16_5 x71_3 x18_4 (wrap64 (x19_5 + 1)) t407 (t407.length : Int) x65_2 (l0.length : Int) x71_3)) = some r := H
                         have A41 := Aside0.mk A410
                         clear A410
                         by_cases c42 : t431 = true
                         ·subst c42
                          have H1 : (cohousinglaw30_LeakSure.l3 kj32 l0 l1 t405 t407 t412 t413 x13_2 (rd t407 x65_2) true x71_3 x18_4 (wrap64 (x19_5 + 1)) t407 (t407.length : Int) x65_2 (l0.length : Int) x71_3) = some r := by rw [if_pos rfl] at H; exact H
                          clear H
                          have H := H1
                          clear H1
                          have H' := Aside0.mk H
                          clear H
                          obtain ⟨Ao43, co43, eo43⟩ := Kd.R_slice HO_20.out
                          subst eo43
                          go_wp2_with (first | (go_at_call 21; (with_reducible refine (cohousingref30_Has.calls kj32 _ _ x20_32 (rd t407 x65_2) false _ ?side1 ?side2 A38.out).mono ?_); (case side1 => exact cc_ ((Kd.R_reads' HO_20.out).2.2)); (case side2 => exact (Kd.R_reads' HO_20.out).2.1); rintro e w' ⟨rfl, ⟨nd, rfl⟩⟩) | (go_at_call 19; (with_reducible refine (cohousinglaw30_explains.calls kj32 _ _ l0 _ _ l1 _ _ x20_32 true _ ?side1 ?side2 ?side3 ?side4 ?side5 ?side6 A41.out).mono ?_); (case side1 => exact cc_ ((Kd.C_below HR0.out (bb_ HB)))); (case side2 => exact HC0.out); (case side3 => exact cc_ ((Kd.C_below HR1.out (bb_ HB)))); (case side4 => exact HC1.out); (case side5 => exact cc_ ((Kd.R_reads' HO_20.out).2.2)); (case side6 => exact (Kd.R_reads' HO_20.out).2.1); rintro e w44 ⟨rfl, hb⟩; have n0_ := Aside0.mk (Kd.R_below (rr_ HO_8) hb); have n1_ := Aside0.mk (Kd.R_below (rr_ HO_11) hb); have n2_ := Aside0.mk (Kd.R_below (rr_ HO_13) hb); have n3_ := Aside0.mk (Kd.R_below (rr_ HO_20) hb); have n4_ := Aside0.mk (Kd.R_below (rr_ HO_63) hb); have n5_ := Aside0.mk (below_step (bb_ HB) hb); clear HO_8; clear HO_11; clear HO_13; clear HO_20; clear HO_63; clear HB; have HO_8 := n0_; have HO_11 := n1_; have HO_13 := n2_; have HO_20 := n3_; have HO_63 := n4_; have HB := n5_; clear n0_ n1_ n2_ n3_ n4_ n5_; (try clear hb); (try clear hb2); (try clear hk); (try clear hi)))
                          go_roundg kj32
                          case measure => have := HJ8.out; have := HK2.out; have := HK3.out; have := HK4.out; have := HK5.out; have := HJ26.out; have := HJ32.out; omega
                          case rel => exact ⟨(true), (wrap64 (x19_5 + 1)), sd_, sd_, H', ⟨by have := HJ8.out; have := HK2.out; have := HK3.out; have := HK4.out; have := HK5.out; have := HJ26.out; have := HJ32.out; omega⟩, ⟨by (with_reducible repeat (first | apply Kd.R_alloc | apply Kd.R_drewN | apply Kd.R_drew)); exact Kd.R_mono HO_8.out (fun _ hk => ⟨hk.1, hk.2.1⟩)⟩, ⟨by (with_reducible repeat (first | apply Kd.R_alloc | apply Kd.R_drewN | apply Kd.R_drew)); exact Kd.R_mono HO_11.out (fun _ hk => ⟨hk.1, ⟨hk.2.1, hk.2.2.2⟩⟩)⟩, ⟨by (with_reducible repeat (first | apply Kd.R_alloc | apply Kd.R_drewN | apply Kd.R_drew)); exact Kd.R_mono HO_13.out (fun _ hk => ⟨hk.1, ⟨hk.2.1, hk.2.2.2⟩⟩)⟩, ⟨by (with_reducible repeat (first | apply Kd.R_alloc | apply Kd.R_drewN | apply Kd.R_drew)); exact Kd.R_mono HO_63.out (fun _ hk => ⟨hk.1, hk.2.1⟩)⟩, ⟨by repeat (first | (with_reducible first | exact HB.out | apply below_alloc | apply pw_below_drewN | apply below_drew1) | exact HB.out)⟩⟩
                         ·replace c42 := Bool.eq_false_iff.mpr c42
                          subst c42
                          have H1 : (cohousinglaw30_LeakSure.l3 kj32 l0 l1 t405 t407 t412 t413 x13_2 (rd t407 x65_2) x16_5 x71_3 x18_4 (wrap64 (x19_5 + 1)) t407 (t407.length : Int) x65_2 (l0.length : Int) x71_3) = some r := by rw [if_neg (show ¬ (false = true) by decide)] at H; exact H
                          clear H
                          have H := H1
                          clear H1
                          have H' := Aside0.mk H
                          clear H
                          obtain ⟨Ao45, co45, eo45⟩ := Kd.R_slice HO_20.out
                          subst eo45
                          go_wp2_with (first | (go_at_call 21; (with_reducible refine (cohousingref30_Has.calls kj32 _ _ x20_32 (rd t407 x65_2) false _ ?side1 ?side2 A38.out).mono ?_); (case side1 => exact cc_ ((Kd.R_reads' HO_20.out).2.2)); (case side2 => exact (Kd.R_reads' HO_20.out).2.1); rintro e w' ⟨rfl, ⟨nd, rfl⟩⟩) | (go_at_call 19; (with_reducible refine (cohousinglaw30_explains.calls kj32 _ _ l0 _ _ l1 _ _ x20_32 false _ ?side1 ?side2 ?side3 ?side4 ?side5 ?side6 A41.out).mono ?_); (case side1 => exact cc_ ((Kd.C_below HR0.out (bb_ HB)))); (case side2 => exact HC0.out); (case side3 => exact cc_ ((Kd.C_below HR1.out (bb_ HB)))); (case side4 => exact HC1.out); (case side5 => exact cc_ ((Kd.R_reads' HO_20.out).2.2)); (case side6 => exact (Kd.R_reads' HO_20.out).2.1); rintro e w46 ⟨rfl, hb⟩; have n0_ := Aside0.mk (Kd.R_below (rr_ HO_8) hb); have n1_ := Aside0.mk (Kd.R_below (rr_ HO_11) hb); have n2_ := Aside0.mk (Kd.R_below (rr_ HO_13) hb); have n3_ := Aside0.mk (Kd.R_below (rr_ HO_20) hb); have n4_ := Aside0.mk (Kd.R_below (rr_ HO_63) hb); have n5_ := Aside0.mk (below_step (bb_ HB) hb); clear HO_8; clear HO_11; clear HO_13; clear HO_20; clear HO_63; clear HB; have HO_8 := n0_; have HO_11 := n1_; have HO_13 := n2_; have HO_20 := n3_; have HO_63 := n4_; have HB := n5_; clear n0_ n1_ n2_ n3_ n4_ n5_; (try clear hb); (try clear hb2); (try clear hk); (try clear hi)))
                          go_roundg kj32
                          case measure => have := HJ8.out; have := HK2.out; have := HK3.out; have := HK4.out; have := HK5.out; have := HJ26.out; have := HJ32.out; omega
                          case rel => exact ⟨(x16_5), (wrap64 (x19_5 + 1)), sd_, sd_, H', ⟨by have := HJ8.out; have := HK2.out; have := HK3.out; have := HK4.out; have := HK5.out; have := HJ26.out; have := HJ32.out; omega⟩, ⟨by (with_reducible repeat (first | apply Kd.R_alloc | apply Kd.R_drewN | apply Kd.R_drew)); exact Kd.R_mono HO_8.out (fun _ hk => ⟨hk.1, hk.2.1⟩)⟩, ⟨by (with_reducible repeat (first | apply Kd.R_alloc | apply Kd.R_drewN | apply Kd.R_drew)); exact Kd.R_mono HO_11.out (fun _ hk => ⟨hk.1, ⟨hk.2.1, hk.2.2.2⟩⟩)⟩, ⟨by (with_reducible repeat (first | apply Kd.R_alloc | apply Kd.R_drewN | apply Kd.R_drew)); exact Kd.R_mono HO_13.out (fun _ hk => ⟨hk.1, ⟨hk.2.1, hk.2.2.2⟩⟩)⟩, ⟨by (with_reducible repeat (first | apply Kd.R_alloc | apply Kd.R_drewN | apply Kd.R_drew)); exact Kd.R_mono HO_63.out (fun _ hk => ⟨hk.1, hk.2.1⟩)⟩, ⟨by repeat (first | (with_reducible first | exact HB.out | apply below_alloc | apply pw_below_drewN | apply below_drew1) | exact HB.out)⟩⟩
                       ·rw [if_neg c37] at H
                        have c37b0 : ((x20_32.length : Int) == (t407.length : Int)) = false := beq_eq_false_iff_ne.mpr c37
                        have c37b1 : ((x20_32.length : Int) != (t407.length : Int)) = true := bne_iff_ne.mpr c37
                        have c37b2 : (x20_32.length == t407.length) = false := by first | simpa using c37 | (simp at c37 ⊢; omega)
                        have H' := Aside0.mk H
                        clear H
                        obtain ⟨Ao47, co47, eo47⟩ := Kd.R_slice HO_20.out
                        subst eo47
                        go_wp2
                        go_roundg kj32
                        case measure => have := HJ8.out; have := HK2.out; have := HK3.out; have := HK4.out; have := HK5.out; have := HJ26.out; have := HJ32.out; omega
                        case rel => exact ⟨(x16_5), (wrap64 (x19_5 + 1)), sd_, sd_, H', ⟨by have := HJ8.out; have := HK2.out; have := HK3.out; have := HK4.out; have := HK5.out; have := HJ26.out; have := HJ32.out; omega⟩, ⟨by (with_reducible repeat (first | apply Kd.R_alloc | apply Kd.R_drewN | apply Kd.R_drew)); exact Kd.R_mono HO_8.out (fun _ hk => ⟨hk.1, hk.2.1⟩)⟩, ⟨by (with_reducible repeat (first | apply Kd.R_alloc | apply Kd.R_drewN | apply Kd.R_drew)); exact Kd.R_mono HO_11.out (fun _ hk => ⟨hk.1, ⟨hk.2.1, hk.2.2.2⟩⟩)⟩, ⟨by (with_reducible repeat (first | apply Kd.R_alloc | apply Kd.R_drewN | apply Kd.R_drew)); exact Kd.R_mono HO_13.out (fun _ hk => ⟨hk.1, ⟨hk.2.1, hk.2.2.2⟩⟩)⟩, ⟨by (with_reducible repeat (first | apply Kd.R_alloc | apply Kd.R_drewN | apply Kd.R_drew)); exact Kd.R_mono HO_63.out (fun _ hk => ⟨hk.1, hk.2.1⟩)⟩, ⟨by repeat (first | (with_reducible first | exact HB.out | apply below_alloc | apply pw_below_drewN | apply below_drew1) | exact HB.out)⟩⟩
                  ·rw [if_neg c26] at H
                   have c26b0 : decide (x19_5 < (l0.length : Int)) = false := decide_eq_false c26
                   clear c26
                   have H' := Aside0.mk H
                   clear H
                   go_wp2
                   go_roundg k5
                   case measure => have := HJ8.out; have := HK2.out; have := HK3.out; have := HK4.out; have := HK5.out; omega
                   case rel => exact ⟨(x16_5), (wrap64 (x18_4 + 1)), sd_, sd_, H', ⟨by have := HJ8.out; have := HK2.out; have := HK3.out; have := HK4.out; have := HK5.out; omega⟩, ⟨by (with_reducible repeat (first | apply Kd.R_alloc | apply Kd.R_drewN | apply Kd.R_drew)); exact HO_8.out⟩, ⟨by (with_reducible repeat (first | apply Kd.R_alloc | apply Kd.R_drewN | apply Kd.R_drew)); exact HO_11.out⟩, ⟨by (with_reducible repeat (first | apply Kd.R_alloc | apply Kd.R_drewN | apply Kd.R_drew)); exact HO_13.out⟩, ⟨by (with_reducible repeat (first | apply Kd.R_alloc | apply Kd.R_drewN | apply Kd.R_drew)); exact HO_63.out⟩, ⟨by repeat (first | (with_reducible first | exact HB.out | apply below_alloc | apply pw_below_drewN | apply below_drew1) | exact HB.out)⟩⟩
               ·rw [if_neg c25] at H
                have c25b0 : decide (x18_4 < (l0.length : Int)) = false := decide_eq_false c25
                clear c25
                have H' := Aside0.mk H
                clear H
                go_wp2
                go_roundg k4
                case measure => have := HJ8.out; have := HK2.out; have := HK3.out; have := HK4.out; omega
                case rel => exact ⟨(x16_4), (wrap64 (x71_3 + 1)), sd_, sd_, H', ⟨by have := HJ8.out; have := HK2.out; have := HK3.out; have := HK4.out; omega⟩, ⟨by (with_reducible repeat (first | apply Kd.R_alloc | apply Kd.R_drewN | apply Kd.R_drew)); exact HO_8.out⟩, ⟨by (with_reducible repeat (first | apply Kd.R_alloc | apply Kd.R_drewN | apply Kd.R_drew)); exact HO_11.out⟩, ⟨by (with_reducible repeat (first | apply Kd.R_alloc | apply Kd.R_drewN | apply Kd.R_drew)); exact HO_13.out⟩, ⟨by (with_reducible repeat (first | apply Kd.R_alloc | apply Kd.R_drewN | apply Kd.R_drew)); exact HO_63.out⟩, ⟨by repeat (first | (with_reducible first | exact HB.out | apply below_alloc | apply pw_below_drewN | apply below_drew1) | exact HB.out)⟩⟩
            ·rw [if_neg c24] at H
             have c24b0 : decide (x71_3 < (l0.length : Int)) = false := decide_eq_false c24
             clear c24
             by_cases c48 : x16_3 = true
             ·subst c48
              have H1 : (cohousinglaw30_LeakSure.l0 k3 l0 l1 t405 t407 t412 t413 x13_2 t407 (t407.length : Int) (wrap64 (x65_2 + 1))) = some r := by rw [if_pos rfl] at H; exact H
              clear H
              have H := H1
              clear H1
              have H' := Aside0.mk H
              clear H
              go_wp2
              go_roundg k3
              case measure => have := HJ8.out; have := HK2.out; have := HK3.out; omega
              case rel => exact ⟨(x13_2), (wrap64 (x65_2 + 1)), sd_, H', ⟨by have := HJ8.out; have := HK2.out; have := HK3.out; omega⟩, ⟨by (with_reducible repeat (first | apply Kd.R_alloc | apply Kd.R_drewN | apply Kd.R_drew)); exact HO_8.out⟩, ⟨by (with_reducible repeat (first | apply Kd.R_alloc | apply Kd.R_drewN | apply Kd.R_drew)); exact HO_11.out⟩, ⟨by (with_reducible repeat (first | apply Kd.R_alloc | apply Kd.R_drewN | apply Kd.R_drew)); exact HO_13.out⟩, ⟨by (with_reducible repeat (first | apply Kd.R_alloc | apply Kd.R_drewN | apply Kd.R_drew)); exact HO_63.out⟩, ⟨by repeat (first | (with_reducible first | exact HB.out | apply below_alloc | apply pw_below_drewN | apply below_drew1) | exact HB.out)⟩⟩
             ·replace c48 := Bool.eq_false_iff.mpr c48
              subst c48
              have H1 : (if x13_2.length < 17592186044416 then (cohousinglaw30_LeakSure.l0 k3 l0 l1 t405 t407 t412 t413 (x13_2 ++ [(rd t407 x65_2)]) t407 (t407.length : Int) (wrap64 (x65_2 + 1))) else (none)) = some r := by rw [if_neg (show ¬ (false = true) by decide)] at H; exact H
              clear H
              have H := H1
              clear H1
              by_cases c49 : x13_2.length < 17592186044416
              ·rw [if_pos c49] at H
               have LMc49 := Aside0.mk c49
               clear c49
               obtain ⟨y418, hy418⟩ : ∃ y_ : List Int, y_ = (x13_2 ++ [(rd t407 x65_2)]) := ⟨_, rfl⟩
               replace H : (cohousinglaw30_LeakSure.l0 k3 l0 l1 t405 t407 t412 t413 y418 t407 (t407.length : Int) (wrap64 (x65_2 + 1))) = some r := by first | (rw [hy418]; with_reducible exact H) | (have H2_ := (Option.bind_some _ _).symm.trans H; rw [hy418]; with_reducible exact H2_) | (have H2_ := (Option.bind_some _ _).symm.trans H; with_reducible exact H2_) | with_reducible exact H | (rw [hy418]; exact H) | exact H
               have Ny418 := Aside0.mk hy418
               clear hy418
               have H' := Aside0.mk H
               clear H
               go_wp2_with (first | ((with_reducible refine gate_builtin (b := .append) (xs := #[.tmp 124, .tmp 126]) rfl ?_); (try (refine gate_guard (by rfl) ?_; dsimp only)); at_builtin; refine Kd.R_append (Kd.int .i64) (w0 := w) w.heap.size rfl (.tmp 124) (.tmp 126) 26 3 (.int .i64 0) 8 rfl Try.underlying26 info3 rfl (by decide) (by omega) u13 x13_2 (rd t407 x65_2) [.int .i64 (rd t407 x65_2)] (fun k_ => some k_ ≠ (.slice (some ad417) t407.length co20 : Value).ownBlock ∧ some k_ ≠ (v414 : Value).ownBlock ∧ some k_ ≠ (.slice (some ad417) t407.length co20 : Value).ownBlock) (fun _ => False) rfl rfl ?aP (fun _ hk => hk.elim) ?aF ?aO ?aB ?aS ?aL ?_; (case aP => exact rfl); (case aB => exact (bb_ HB)); (case aF => exact (fun k_ hk => ⟨Kd.fresh' (Kd.R_lt (rr_ HO_8)) k_ hk, Kd.fresh' (Kd.R_lt (rr_ HO_11)) k_ hk, Kd.fresh' (Kd.R_lt (rr_ HO_63)) k_ hk⟩)); (case aO => exact (rr_ HO_13)); (case aS => exact (below_size (bb_ HB))); (case aL => have := LMc49.out; omega); intro v419 w50 ho hb hg hat; rw [← Ny418.out] at ho; have n0_ := Aside0.mk (Kd.R_after (ok := (fun k_ => some k_ ≠ (v414 : Value).ownBlock)) (rr_ HO_8) hg hat); have n1_ := Aside0.mk (Kd.R_after (ok := (fun k_ => some k_ ≠ (.slice (some ad417) t407.length co20 : Value).ownBlock ∧ some k_ ≠ (.slice (some ad417) t407.length co20 : Value).ownBlock)) (by (with_reducible repeat (first | apply Kd.R_alloc | apply Kd.R_drewN | apply Kd.R_drew)); exact Kd.R_mono HO_11.out (fun _ hk => ⟨⟨hk.1, hk.2.2⟩, hk.2.1⟩)) hg hat); have n2_ := Aside0.mk (Kd.R_after (ok := (fun k_ => some k_ ≠ (v414 : Value).ownBlock)) (rr_ HO_63) hg hat); have n3_ := Aside0.mk (hb); have n4_ := Aside0.mk (ho); clear HO_8; clear HO_11; clear HO_63; clear HB; clear HO_13; have HO_8 := n0_; have HO_11 := n1_; have HO_63 := n2_; have HB := n3_; have HO420 := n4_; clear n0_ n1_ n2_ n3_ n4_; clear ho hb hg hat))
               go_roundg k3
               case measure => have := HJ8.out; have := HK2.out; have := HK3.out; omega
               case rel => exact ⟨(y418), (wrap64 (x65_2 + 1)), sd_, H', ⟨by have := HJ8.out; have := HK2.out; have := HK3.out; omega⟩, ⟨by (with_reducible repeat (first | apply Kd.R_alloc | apply Kd.R_drewN | apply Kd.R_drew)); exact HO_8.out⟩, ⟨by (with_reducible repeat (first | apply Kd.R_alloc | apply Kd.R_drewN | apply Kd.R_drew)); exact Kd.R_mono HO_11.out (fun _ hk => ⟨hk.1.1, ⟨hk.2, hk.1.2⟩⟩)⟩, ⟨by (with_reducible repeat (first | apply Kd.R_alloc | apply Kd.R_drewN | apply Kd.R_drew)); exact HO420.out⟩, ⟨by (with_reducible repeat (first | apply Kd.R_alloc | apply Kd.R_drewN | apply Kd.R_drew)); exact HO_63.out⟩, ⟨by repeat (first | (with_reducible first | exact HB.out | apply below_alloc | apply pw_below_drewN | apply below_drew1) | exact HB.out)⟩⟩
              ·rw [if_neg c49] at H
               exact absurd H (by simp)
         ·rw [if_neg c23] at H
          exact absurd H (by simp)
        ·rw [if_neg c22] at H
         exact absurd H (by simp)
       ·rw [if_neg c21] at H
        have c21b0 : decide (x65_2 < (t407.length : Int)) = false := decide_eq_false c21
        clear c21
        by_cases c51 : t405 = true
        ·subst c51
         have H1 : (if t413 = 0 then ((cohousingref30_Same.f k2 t412 x13_2).bind fun t416 => (some t416)) else (some false)) = some r := by rw [if_pos rfl] at H; exact H
         clear H
         have H := H1
         clear H1
         by_cases c52 : t413 = 0
         ·rw [if_pos c52] at H
          have c52b0 : (t413 == 0) = true := beq_iff_eq.mpr c52
          have c52b1 : (t413 != 0) = false := bne_eq_false_iff_eq.mpr c52
          clear c52
          replace H := Option.bind_eq_some_iff.mp H
          obtain ⟨t416, A530, H⟩ := H
          replace H : (some t416) = some r := H
          have A53 := Aside0.mk A530
          clear A530
          obtain rfl := Option.some.inj H
          obtain ⟨Ao54, co54, eo54⟩ := Kd.R_slice HO_11.out
          subst eo54
          obtain ⟨Ao55, co55, eo55⟩ := Kd.R_slice HO_13.out
          subst eo55
          go_wp2_with (first | (go_at_call 15; (with_reducible refine (cohousingref30_Same.calls k2 _ _ t412 _ _ x13_2 t416 _ ?side1 ?side2 ?side3 ?side4 A53.out).mono ?_); (case side1 => exact cc_ ((Kd.R_reads' HO_11.out).2.2)); (case side2 => exact (Kd.R_reads' HO_11.out).2.1); (case side3 => exact cc_ ((Kd.R_reads' HO_13.out).2.2)); (case side4 => exact (Kd.R_reads' HO_13.out).2.1); rintro e w' ⟨rfl, ⟨nd, rfl⟩⟩))
          go_ret
          exact ⟨ew_, by repeat (first | (with_reducible first | exact HB.out | apply below_alloc | apply pw_below_drewN | apply below_drew1) | exact HB.out)⟩
         ·rw [if_neg c52] at H
          have c52b0 : (t413 == 0) = false := beq_eq_false_iff_ne.mpr c52
          have c52b1 : (t413 != 0) = true := bne_iff_ne.mpr c52
          obtain rfl := Option.some.inj H
          go_wp2
          go_ret
          exact ⟨ew_, by repeat (first | (with_reducible first | exact HB.out | apply below_alloc | apply pw_below_drewN | apply below_drew1) | exact HB.out)⟩
        ·replace c51 := Bool.eq_false_iff.mpr c51
         subst c51
         have H1 : (some false) = some r := by rw [if_neg (show ¬ (false = true) by decide)] at H; exact H
         clear H
         have H := H1
         clear H1
         obtain rfl := Option.some.inj H
         go_wp2
         go_ret
         exact ⟨ew_, by repeat (first | (with_reducible first | exact HB.out | apply below_alloc | apply pw_below_drewN | apply below_drew1) | exact HB.out)⟩
 ·replace c6 := Bool.eq_false_iff.mpr c6
  subst c6
  have H1 : (some t405) = some r := by rw [if_neg (show ¬ (false = true) by decide)] at H; exact H
  clear H
  have H := H1
  clear H1
  obtain rfl := Option.some.inj H
  go_enter Try.func6, Try.ntmps6
  go_wp2_with (first | ((with_reducible refine gate_callee (f := 11) rfl ?_); refine gl_ (some 21) Try.func11 #[] ?_; (with_reducible refine (cohousinglaw30_head.calls k  t405 _ A4.out).mono ?_); rintro e w56 ⟨rfl, hb⟩; refine ⟨_, rfl, ?_⟩; have n0_ := Aside0.mk (below_step (bb_ HB) hb); clear HB; have HB := n0_; clear n0_; (try clear hb); (try clear hb2); (try clear hk); (try clear hi)) | ((with_reducible refine gate_callee (f := 18) rfl ?_); refine gl_ (some 25) Try.func18 #[.slice A0 l0.length c0, .slice A1 l1.length c1, .int .i64 a2] ?_; (with_reducible refine (cohousinglaw30_usable.calls k _ _ l0 _ _ l1 a2 false _ ?side1 ?side2 ?side3 ?side4 A5.out).mono ?_); (case side1 => exact cc_ ((Kd.C_below HR0.out HB.out))); (case side2 => exact HC0.out); (case side3 => exact cc_ ((Kd.C_below HR1.out HB.out))); (case side4 => exact HC1.out); rintro e w57 ⟨rfl, hb⟩; refine ⟨_, rfl, ?_⟩; have n0_ := Aside0.mk (below_step (bb_ HB) hb); clear HB; have HB := n0_; clear n0_; (try clear hb); (try clear hb2); (try clear hk); (try clear hi)))
  go_ret
  exact ⟨ew_, by repeat (first | (with_reducible first | exact HB.out | apply below_alloc | apply pw_below_drewN | apply below_drew1) | exact HB.out)⟩
end
end Go.Proofs.Ytolmjhpapidmhaa.P
end
section
namespace Go.Proofs.Ytolmjhpapidmhaa.P
open Go.RowKit Go.Proofs.YtolmjhpapidmhaaW.PrintWords Go.Proofs.YtolmjhpapidmhaaW.PrintLast Go.Proofs.YtolmjhpapidmhaaW.PrintMore Go.Proofs.YtolmjhpapidmhaaH Go.Proofs.FlowTree
open Classical
def tri (a b c : Int) : List Int := ([a] ++ (if b > a then [b] else [])) ++ (if c > b then [c] else [])
theorem tri_len (a b c : Int) : (tri a b c).length ≤ 3 := by
 unfold tri
 split <;> split <;> simp
section
variable (l : List PI) (r : List RG) (s sure : List Int) (e : Int)
def hits (a b c : Int) : Prop := (tri a b c).length = s.length ∧ e ∉ tri a b c ∧ tri a b c ∈ exs l r s.length
variable (hl : l.length ≤ 12) (hr : r.length ≤ 20) (hs : s.length ≤ 3)
include hl hr
theorem ls_j6 (want : List Int) (idx : Int) (a b c : Nat) (hc : c < l.length) (av : Int) (fl : Bool) (R : Bool)
  (h : ∀ fl', fl' = (fl || decide (hits l r s e a b c)) → Ev (fun k => cohousinglaw30_LeakSure.l3 k l r true s sure 0 want e fl' a b ((c + 1 : Nat) : Int) s (s.length : Int) idx (l.length : Int) av) R) :
  Ev (fun k => cohousinglaw30_LeakSure.j6 k l r true s sure 0 want e fl a b c (tri a b c) s (s.length : Int) idx (l.length : Int) av) R := by
 have hw := wrap_nat (show c ≤ 140737488355328 by omega)
 have ht := tri_len a b c
 refine Ev.step ?_
 by_cases h1 : (tri a b c).length = s.length
 ·have h1' : ((tri a b c).length : Int) = (s.length : Int) := by omega
  simp only [cohousinglaw30_LeakSure.j6, h1', if_true, hw]
  refine Ev.bnd (has_f (tri a b c) e (by omega)) ?_
  by_cases h2 : e ∈ tri a b c
  ·rw [List.contains_iff_mem.2 h2]
   simp only [if_true]
   refine h fl ?_
   rw [decide_eq_false (fun hh => hh.2.1 h2), Bool.or_false]
  ·rw [show (tri a b c).contains e = false from Bool.eq_false_iff.2 (fun hh => h2 (List.contains_iff_mem.1 hh))]
   simp only [Bool.false_eq_true, if_false]
   refine Ev.bnd (lawExplains_f l r (tri a b c) hl hr (by omega)) ?_
   rw [h1]
   by_cases h3 : tri a b c ∈ exs l r s.length
   ·simp only [decide_eq_true h3, if_true]
    refine h true ?_
    rw [decide_eq_true (show hits l r s e a b c from ⟨h1, h2, h3⟩), Bool.or_true]
   ·simp only [decide_eq_false h3, Bool.false_eq_true, if_false]
    refine h fl ?_
    rw [decide_eq_false (fun hh => h3 hh.2.2), Bool.or_false]
 ·have h1' : ¬ (((tri a b c).length : Int) = (s.length : Int)) := by omega
  simp only [cohousinglaw30_LeakSure.j6, h1', if_false, hw]
  refine h fl ?_
  rw [decide_eq_false (fun hh => h1 hh.1), Bool.or_false]
theorem ls_j5 (want : List Int) (idx : Int) (a b c : Nat) (hc : c < l.length) (av : Int) (fl : Bool) (R : Bool)
  (h : ∀ fl', fl' = (fl || decide (hits l r s e a b c)) → Ev (fun k => cohousinglaw30_LeakSure.l3 k l r true s sure 0 want e fl' a b ((c + 1 : Nat) : Int) s (s.length : Int) idx (l.length : Int) av) R) :
  Ev (fun k => cohousinglaw30_LeakSure.j5 k l r true s sure 0 want e fl a b c ([(a : Int)] ++ (if (b : Int) > (a : Int) then [(b : Int)] else [])) s (s.length : Int) idx (l.length : Int) av) R := by
 have key := ls_j6 l r s sure e hl hr want idx a b c hc av fl R h
 refine Ev.step ?_
 have hlen : ([(a : Int)] ++ (if (b : Int) > (a : Int) then [(b : Int)] else [])).length < 17592186044416 := by split <;> simp
 unfold tri at key
 by_cases h1 : (c : Int) > (b : Int)
 ·rw [if_pos h1] at key
  simp only [cohousinglaw30_LeakSure.j5, h1, if_true]
  rw [show (fun k => if ([(a : Int)] ++ (if (b : Int) > (a : Int) then [(b : Int)] else [])).length < 17592186044416 then _ else _) = _ from funext fun k => if_pos hlen]
  exact key
 ·rw [if_neg h1, List.append_nil] at key
  simp only [cohousinglaw30_LeakSure.j5, h1, if_false]
  exact key
theorem ls_l3 (want : List Int) (idx : Int) (a b : Nat) (hb : b < l.length) (av : Int) (R : Bool) : ∀ (d c : Nat) (fl : Bool), c + d = l.length →
  (∀ fl', fl' = (fl || decide (∃ c' : Nat, c ≤ c' ∧ c' < l.length ∧ hits l r s e a b c')) → Ev (fun k => cohousinglaw30_LeakSure.l2 k l r true s sure 0 want e fl' a ((b + 1 : Nat) : Int) s (s.length : Int) idx (l.length : Int) av) R) →
  Ev (fun k => cohousinglaw30_LeakSure.l3 k l r true s sure 0 want e fl a b c s (s.length : Int) idx (l.length : Int) av) R := by
 intro d
 induction d with
 | zero =>
  intro c fl hc h
  refine Ev.step ?_
  have h1 : ¬ ((c : Int) < (l.length : Int)) := by omega
  simp only [cohousinglaw30_LeakSure.l3, h1, if_false, wrap_nat (show b ≤ 140737488355328 by omega)]
  refine h fl ?_
  rw [decide_eq_false (fun ⟨c', g1, g2, _⟩ => by omega), Bool.or_false]
 | succ d ih =>
  intro c fl hc h
  refine Ev.step ?_
  have h1 : (c : Int) < (l.length : Int) := by omega
  have key := ls_j5 l r s sure e hl hr want idx a b c (by omega) av fl R (fun fl' hfl => ih (c + 1) fl' (by omega) (fun fl'' hfl2 => h fl'' (by
   rw [hfl2, hfl, Bool.or_assoc]
   congr 1
   rw [← Bool.decide_or]
   refine decide_eq_decide.2 ⟨?_, ?_⟩
   ·rintro (g | ⟨c', g1, g2, g3⟩)
    ·exact ⟨c, Nat.le_refl _, by omega, g⟩
    ·exact ⟨c', by omega, g2, g3⟩
   ·rintro ⟨c', g1, g2, g3⟩
    by_cases e : c' = c
    ·subst e; exact .inl g3
    ·exact .inr ⟨c', by omega, g2, g3⟩)))
  simp only [cohousinglaw30_LeakSure.l3, h1, if_true, Option.bind_some]
  by_cases h2 : (b : Int) > (a : Int)
  ·rw [if_pos h2] at key
   have h3 : ([(a : Int)] : List Int).length < 17592186044416 := by simp
   simp only [h2, h3, if_true]
   exact key
  ·rw [if_neg h2, List.append_nil] at key
   simp only [h2, if_false]
   exact key
theorem ls_l2 (want : List Int) (idx : Int) (a : Nat) (ha : a < l.length) (R : Bool) : ∀ (d b : Nat) (fl : Bool), b + d = l.length →
  (∀ fl', fl' = (fl || decide (∃ b' : Nat, b ≤ b' ∧ b' < l.length ∧ ∃ c' : Nat, b' ≤ c' ∧ c' < l.length ∧ hits l r s e a b' c')) → Ev (fun k => cohousinglaw30_LeakSure.l1 k l r true s sure 0 want e fl' s (s.length : Int) idx (l.length : Int) ((a + 1 : Nat) : Int)) R) →
  Ev (fun k => cohousinglaw30_LeakSure.l2 k l r true s sure 0 want e fl a b s (s.length : Int) idx (l.length : Int) (a : Int)) R := by
 intro d
 induction d with
 | zero =>
  intro b fl hb h
  refine Ev.step ?_
  have h1 : ¬ ((b : Int) < (l.length : Int)) := by omega
  simp only [cohousinglaw30_LeakSure.l2, h1, if_false, wrap_nat (show a ≤ 140737488355328 by omega)]
  refine h fl ?_
  rw [decide_eq_false (fun ⟨b', g1, g2, _⟩ => by omega), Bool.or_false]
 | succ d ih =>
  intro b fl hb h
  refine Ev.step ?_
  have h1 : (b : Int) < (l.length : Int) := by omega
  simp only [cohousinglaw30_LeakSure.l2, h1, if_true]
  refine ls_l3 l r s sure e hl hr want idx a b (by omega) (a : Int) R (l.length - b) b fl (by omega) (fun fl' hfl => ih (b + 1) fl' (by omega) (fun fl'' hfl2 => h fl'' ?_))
  rw [hfl2, hfl, Bool.or_assoc]
  congr 1
  rw [← Bool.decide_or]
  refine decide_eq_decide.2 ⟨?_, ?_⟩
  ·rintro (g | ⟨b', g1, g2, g3⟩)
   ·exact ⟨b, Nat.le_refl _, by omega, g⟩
   ·exact ⟨b', by omega, g2, g3⟩
  ·rintro ⟨b', g1, g2, g3⟩
   by_cases e : b' = b
   ·subst e; exact .inl g3
   ·exact .inr ⟨b', by omega, g2, g3⟩
def without (m : Nat) : Prop := ∃ a : Nat, m ≤ a ∧ a < l.length ∧ ∃ b : Nat, a ≤ b ∧ b < l.length ∧ ∃ c : Nat, b ≤ c ∧ c < l.length ∧ hits l r s e a b c
theorem ls_l1 (want : List Int) (idx : Nat) (hi : idx ≤ 1000) (hw : want.length ≤ 1000) (R : Bool) : ∀ (d a : Nat) (fl : Bool), a + d = l.length →
  ((fl || decide (without l r s e a)) = true → Ev (fun k => cohousinglaw30_LeakSure.l0 k l r true s sure 0 want s (s.length : Int) ((idx + 1 : Nat) : Int)) R) →
  ((fl || decide (without l r s e a)) = false → Ev (fun k => cohousinglaw30_LeakSure.l0 k l r true s sure 0 (want ++ [e]) s (s.length : Int) ((idx + 1 : Nat) : Int)) R) →
  Ev (fun k => cohousinglaw30_LeakSure.l1 k l r true s sure 0 want e fl s (s.length : Int) (idx : Int) (l.length : Int) (a : Int)) R := by
 intro d
 induction d with
 | zero =>
  intro a fl ha h1 h2
  refine Ev.step ?_
  have g1 : ¬ ((a : Int) < (l.length : Int)) := by omega
  have g2 : want.length < 17592186044416 := by omega
  have g3 : decide (without l r s e a) = false := decide_eq_false (fun ⟨a', g1, g2, _⟩ => by omega)
  rw [g3, Bool.or_false] at h1 h2
  simp only [cohousinglaw30_LeakSure.l1, g1, if_false, wrap_nat (show idx ≤ 140737488355328 by omega)]
  cases fl with
  | true => simp only [if_true]; exact h1 rfl
  | false => simp only [Bool.false_eq_true, if_false, g2, if_true]; exact h2 rfl
 | succ d ih =>
  intro a fl ha h1 h2
  refine Ev.step ?_
  have g1 : (a : Int) < (l.length : Int) := by omega
  simp only [cohousinglaw30_LeakSure.l1, g1, if_true]
  refine ls_l2 l r s sure e hl hr want (idx : Int) a (by omega) R (l.length - a) a fl (by omega) (fun fl' hfl => ?_)
  have key : (fl' || decide (without l r s e (a + 1))) = (fl || decide (without l r s e a)) := by
   rw [hfl, Bool.or_assoc]
   congr 1
   rw [← Bool.decide_or]
   refine decide_eq_decide.2 ⟨?_, ?_⟩
   ·rintro (g | ⟨a', g1, g2, g3⟩)
    ·exact ⟨a, Nat.le_refl _, by omega, g⟩
    ·exact ⟨a', by omega, g2, g3⟩
   ·rintro ⟨a', g1, g2, g3⟩
    by_cases e : a' = a
    ·subst e; exact .inl g3
    ·exact .inr ⟨a', by omega, g2, g3⟩
  exact ih (a + 1) fl' (by omega) (fun h => h1 (key ▸ h)) (fun h => h2 (key ▸ h))
include hs
omit hl hr in
theorem without_iff (h0 : 0 < s.length) : without l r s e 0 ↔ ∃ x ∈ exs l r s.length, e ∉ x := by
 constructor
 ·rintro ⟨a, _, _, b, _, _, c, _, _, h⟩
  exact ⟨_, h.2.2, h.2.1⟩
 ·rintro ⟨x, hx, he⟩
  have hlen := exs_len hx
  have hok := (okAt_combos l.length x).2 (by rw [hlen]; exact (List.mem_filter.1 hx).1)
  have hn : ∀ j, j < x.length → ∃ q : Nat, rd x (j : Int) = (q : Int) ∧ q < l.length := fun j hj => by
   have h := hok j hj
   exact ⟨(rd x (j : Int)).toNat, by have := h.1; omega, by have := h.1; have := h.2.1; omega⟩
  match x, hlen, hok, hn, hx, he with
  | [], hlen, _, _, _, _ => simp at hlen; omega
  | [u], hlen, hok, hn, hx, he =>
   obtain ⟨p, h1, h2⟩ := hn 0 (by simp)
   have h1 : u = (p : Int) := h1
   subst h1
   have ht : tri (p : Int) (p : Int) (p : Int) = [(p : Int)] := by simp [tri]
   exact ⟨p, Nat.zero_le _, h2, p, Nat.le_refl _, h2, p, Nat.le_refl _, h2, by rw [ht]; exact hlen, by rw [ht]; exact he, by rw [ht]; exact hx⟩
  | [u, v], hlen, hok, hn, hx, he =>
   obtain ⟨p, h1, h2⟩ := hn 0 (by simp)
   obtain ⟨q, h3, h4⟩ := hn 1 (by simp)
   have h1 : u = (p : Int) := h1
   have h3 : v = (q : Int) := h3
   have h5 : u < v := (hok 1 (by simp)).2.2 (by omega)
   subst h1
   subst h3
   have ht : tri (p : Int) (q : Int) (q : Int) = [(p : Int), (q : Int)] := by simp [tri]; omega
   exact ⟨p, Nat.zero_le _, h2, q, by omega, h4, q, Nat.le_refl _, h4, by rw [ht]; exact hlen, by rw [ht]; exact he, by rw [ht]; exact hx⟩
  | [u, v, w], hlen, hok, hn, hx, he =>
   obtain ⟨p, h1, h2⟩ := hn 0 (by simp)
   obtain ⟨q, h3, h4⟩ := hn 1 (by simp)
   obtain ⟨g, h6, h7⟩ := hn 2 (by simp)
   have h1 : u = (p : Int) := h1
   have h3 : v = (q : Int) := h3
   have h6 : w = (g : Int) := h6
   have h5 : u < v := (hok 1 (by simp)).2.2 (by omega)
   have h8 : v < w := (hok 2 (by simp)).2.2 (by omega)
   subst h1
   subst h3
   subst h6
   have ht : tri (p : Int) (q : Int) (g : Int) = [(p : Int), (q : Int), (g : Int)] := by
    unfold tri
    rw [if_pos h5, if_pos h8]
    rfl
   exact ⟨p, Nat.zero_le _, h2, q, by omega, h4, g, by omega, h7, by rw [ht]; exact hlen, by rw [ht]; exact he, by rw [ht]; exact hx⟩
  | _ :: _ :: _ :: _ :: _, hlen, _, _, _, _ => simp at hlen; omega
end
theorem ls_l0 (l : List PI) (r : List RG) (s : List Int) (rest : List (List Int)) (hl : l.length ≤ 12) (hr : r.length ≤ 20) (hs : s.length ≤ 3) (hx : exs l r s.length = s :: rest) : ∀ (d i : Nat), i + d = s.length →
  Ev (fun k => cohousinglaw30_LeakSure.l0 k l r true s (s.filter (fun e => rest.all (fun x => x.contains e))) 0 ((s.take i).filter (fun e => rest.all (fun x => x.contains e))) s (s.length : Int) (i : Int)) true := by
 intro d
 induction d with
 | zero =>
  intro i hi
  refine Ev.step ?_
  have h1 : ¬ ((i : Int) < (s.length : Int)) := by omega
  simp only [cohousinglaw30_LeakSure.l0, h1, if_false, if_true]
  rw [List.take_of_length_le (by omega)]
  refine Ev.bnd (same_f' _ _ (by have := List.length_filter_le (fun e => rest.all (fun x => x.contains e)) s; omega)) ?_
  rw [decide_eq_true rfl]
  exact Ev.pure _
 | succ d ih =>
  intro i hi
  refine Ev.step ?_
  have hlt : i < s.length := by omega
  have h1 : (i : Int) < (s.length : Int) := by omega
  have h2 : (0 : Int) ≤ (i : Int) := by omega
  simp only [cohousinglaw30_LeakSure.l0, h1, h2, if_true]
  obtain ⟨e, he⟩ : ∃ e, e = rd s (i : Int) := ⟨_, rfl⟩
  rw [← he]
  have hmem : e ∈ s := by rw [he, rd_at s i hlt]; exact List.getElem_mem hlt
  have hiff : without l r s e 0 ↔ ¬ rest.all (fun x => x.contains e) = true := by
   rw [without_iff l r s e hs (by omega), hx]
   constructor
   ·rintro ⟨x, hxm, hxe⟩ hall
    rcases List.mem_cons.1 hxm with rfl | hxm
    ·exact hxe hmem
    ·rw [List.all_eq_true] at hall
     exact hxe (List.contains_iff_mem.1 (hall x hxm))
   ·intro hn
    refine Decidable.by_contra fun hno => hn ?_
    rw [List.all_eq_true]
    intro x hxm
    refine List.contains_iff_mem.2 (Decidable.by_contra fun hxe => hno ⟨x, List.mem_cons_of_mem _ hxm, hxe⟩)
  have htk : (s.take (i + 1)).filter (fun e => rest.all (fun x => x.contains e)) = (s.take i).filter (fun e => rest.all (fun x => x.contains e)) ++ (if rest.all (fun x => x.contains e) = true then [e] else []) := by
   rw [List.take_succ_eq_append_getElem hlt, List.filter_append, ← rd_at s i hlt, ← he]
   congr 1
   by_cases h : rest.all (fun x => x.contains e) = true
   ·rw [if_pos h, List.filter_cons_of_pos (by exact h), List.filter_nil]
   ·rw [if_neg h, List.filter_cons_of_neg (by exact h), List.filter_nil]
  have hih := ih (i + 1) (by omega)
  rw [htk] at hih
  refine ls_l1 l r s _ e hl hr _ i (by omega) (by have := List.length_filter_le (fun e => rest.all (fun x => x.contains e)) (s.take i); rw [List.length_take] at this; omega) true l.length 0 false (by omega) (fun h => ?_) (fun h => ?_)
  ·rw [Bool.false_or, decide_eq_true_eq, hiff] at h
   rw [if_neg h, List.append_nil] at hih
   exact hih
  ·rw [Bool.false_or, decide_eq_false_iff_not, hiff, Decidable.not_not] at h
   rw [if_pos h] at hih
   exact hih
theorem sure30_ (l : List PI) (r : List RG) (hl : l.length ≤ 5864062014805) (hr : r.length ≤ 140737488355328) (a : Int) : Ev (fun k => cohousinglaw30_LeakSure.f k l r a) true := by
 unfold cohousinglaw30_LeakSure.f
 refine Ev.bnd head30 ?_
 refine Ev.bnd (usable_f l r a) ?_
 by_cases hU : U l r a
 ·simp only [decide_eq_true hU, if_true, leakExplain_f l r a hl hr, leakSure_f l r a hl hr, Option.bind_some]
  have h := told hU
  generalize explainR l r a = x at h
  generalize sureR l r a = y at h
  cases h with
  | none hno =>
   simp only [if_true]
   refine Ev.step ?_
   simp only [cohousinglaw30_LeakSure.j0, Bool.not_false, if_true]
   exact Ev.pure _
  | some t s rest h1 h2 h3 =>
   have hs := exs_len (show s ∈ exs l r t by rw [h2]; simp)
   have ha := hU.a3
   simp only [if_true]
   refine Ev.step ?_
   simp only [cohousinglaw30_LeakSure.j0, Bool.not_true, Bool.false_eq_true, if_false]
   have := ls_l0 l r s rest hU.n hU.m (by omega) (by rw [hs]; exact h2) s.length 0 (by omega)
   exact this
 ·simp only [decide_eq_false hU, Bool.false_eq_true, if_false]
  exact Ev.pure _
end Go.Proofs.Ytolmjhpapidmhaa.P
end
