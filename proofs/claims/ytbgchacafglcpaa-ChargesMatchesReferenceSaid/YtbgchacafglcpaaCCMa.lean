/- Part 1 of the proof of ChargesMatchesReference: what it alone needs. -/
import Derived.Test.YtbgchacafglcpaaCMf
set_option linter.unusedVariables false
set_option linter.unusedSimpArgs false
section
namespace Go.Proofs.Ytbgchacafglcpaa.P
open Go.RowKit Go.Proofs.YtbgchacafglcpaaW.PrintWords Go.Proofs.YtbgchacafglcpaaW.PrintLast Go.Proofs.YtbgchacafglcpaaW.PrintMore
attribute [local go_sem] max2_int min2_int max_two min_two max_three min_three max_four min_four
set_option linter.unusedVariables false
set_option linter.unusedSimpArgs false
set_option maxHeartbeats 8000000
set_option maxRecDepth 100000
section
mutual
def cohousinglaw29_ChargesMatchesReference.j0 : Nat → Int → Int → List Int → List (S38) → List (S63) → List (S38) → Bool → Bool → Option (Bool)
 | 0, _, _, _, _, _, _, _, _ => none
 | k + 1, x0, x1, x2, x3, x4, x5, x13, x34 => if x34 = true then (some x13) else ((charges_Bounds.f x0 x1 x3).bind fun bt373 => ((cohousingref29_Bounds.f k x0 x1 x3).bind fun bt377 => (if x13 = true then ((cohousingref28_Same.f k bt373.1 bt377.1).bind fun t381 => (if t381 = true then (cohousinglaw29_ChargesMatchesReference.j1 k x0 x1 x2 x3 x4 x5 (bt373.2 == bt377.2)) else (cohousinglaw29_ChargesMatchesReference.j1 k x0 x1 x2 x3 x4 x5 false))) else (cohousinglaw29_ChargesMatchesReference.j1 k x0 x1 x2 x3 x4 x5 false))))
def cohousinglaw29_ChargesMatchesReference.j1 : Nat → Int → Int → List Int → List (S38) → List (S63) → List (S38) → Bool → Option (Bool)
 | 0, _, _, _, _, _, _, _ => none
 | k + 1, x0, x1, x2, x3, x4, x5, x13 => (charges_Share.f x0 x1 x2 x3).bind fun bt382 => ((cohousingref29_Share.f k x0 x1 x2 x3).bind fun bt387 => (if x13 = true then ((cohousingref29_Same.f k bt382.1 bt387.1).bind fun t392 => (if t392 = true then (if bt382.2.1 = bt387.2.1 then ((charges_Network.f x0 x4 x5 x2).bind fun bt393 => ((cohousingref29_Network.f k x0 x4 x5 x2).bind fun bt398 => (if bt382.2.2 = bt387.2.2 then ((cohousingref29_Same.f k bt393.1 bt398.1).bind fun t403 => (if t403 = true then (if bt393.2.1 = bt398.2.1 then (some (bt393.2.2 == bt398.2.2)) else (some false)) else (some false))) else (some false)))) else ((charges_Network.f x0 x4 x5 x2).bind fun bt404 => ((cohousingref29_Network.f k x0 x4 x5 x2).bind fun bt409 => (some false)))) else ((charges_Network.f x0 x4 x5 x2).bind fun bt414 => ((cohousingref29_Network.f k x0 x4 x5 x2).bind fun bt419 => (some false))))) else ((charges_Network.f x0 x4 x5 x2).bind fun bt424 => ((cohousingref29_Network.f k x0 x4 x5 x2).bind fun bt429 => (some false)))))
end
def cohousinglaw29_ChargesMatchesReference.f (k : Nat) (a0 : Int) (a1 : Int) (l2 : List Int) (l3 : List (S38)) (l4 : List (S63)) (l5 : List (S38)) : Option (Bool) := (cohousinglaw29_head.f k).bind fun t371 => ((cohousinglaw29_few.f l4 l5 l2).bind fun t372 => (if t372 = true then (cohousinglaw29_ChargesMatchesReference.j0 k a0 a1 l2 l3 l4 l5 t371 (decide ((l3.length : Int) > 20))) else (cohousinglaw29_ChargesMatchesReference.j0 k a0 a1 l2 l3 l4 l5 t371 true)))
def Held5_ (p : Prop) : Prop := p
theorem held5_ {p : Prop} (h : Held5_ p) : p := h
theorem unheld5_ {p : Prop} (h : p) : Held5_ p := h
theorem cohousinglaw29_ChargesMatchesReference.calls (k : Nat) (a0 : Int) (a1 : Int) (A2 : Option Addr) (c2 : Nat) (l2 : List Int) (A3 : Option Addr) (c3 : Nat) (l3 : List (S38)) (A4 : Option Addr) (c4 : Nat) (l4 : List (S63)) (A5 : Option Addr) (c5 : Nat) (l5 : List (S38)) (r : Bool) (w : World) (hr2 : Kd.C (Kd.int .i64) w A2 l2.length l2) (hc2 : l2.length ≤ c2) (hr3 : Kd.C k38 w A3 l3.length l3) (hc3 : l3.length ≤ c3) (hr4 : Kd.C k63 w A4 l4.length l4) (hc4 : l4.length ≤ c4) (hr5 : Kd.C k38 w A5 l5.length l5) (hc5 : l5.length ≤ c5) (h : cohousinglaw29_ChargesMatchesReference.f k a0 a1 l2 l3 l4 l5 = some r) :
  Calls Try.prog 5 #[.int .i64 a0, .int .i64 a1, .slice A2 l2.length c2, .slice A3 l3.length c3, .slice A4 l4.length c4, .slice A5 l5.length c5] w fun e w' => e = .returned (.bool r) ∧ Below w.heap.size w w' := by
 have HR2 := Aside0.mk hr2
 have HC2 := Aside0.mk hc2
 clear hr2 hc2
 have HR3 := Aside0.mk hr3
 have HC3 := Aside0.mk hc3
 clear hr3 hc3
 have HR4 := Aside0.mk hr4
 have HC4 := Aside0.mk hc4
 clear hr4 hc4
 have HR5 := Aside0.mk hr5
 have HC5 := Aside0.mk hc5
 clear hr5 hc5
 have HB := Aside0.mk (Below.refl w.heap.size w)
 have H : ((cohousinglaw29_head.f k).bind fun t371 => ((cohousinglaw29_few.f l4 l5 l2).bind fun t372 => (if t372 = true then (cohousinglaw29_ChargesMatchesReference.j0 k a0 a1 l2 l3 l4 l5 t371 (decide ((l3.length : Int) > 20))) else (cohousinglaw29_ChargesMatchesReference.j0 k a0 a1 l2 l3 l4 l5 t371 true)))) = some r := h
 clear h
 replace H := Option.bind_eq_some_iff.mp H
 obtain ⟨t371, A70, H⟩ := H
 replace H : ((cohousinglaw29_few.f l4 l5 l2).bind fun t372 => (if t372 = true then (cohousinglaw29_ChargesMatchesReference.j0 k a0 a1 l2 l3 l4 l5 t371 (decide ((l3.length : Int) > 20))) else (cohousinglaw29_ChargesMatchesReference.j0 k a0 a1 l2 l3 l4 l5 t371 true))) = some r := H
 have A7 := Aside0.mk A70
 clear A70
 have HC8 := Aside0.mk H
 clear H
 go_enter Try.func5, Try.ntmps5
 go_upto_region 2 with (first | ((with_reducible refine gate_callee (f := 20) rfl ?_); refine gl_ (some 24) Try.func20 #[] ?_; (with_reducible refine (cohousinglaw29_head.calls k  t371 _ A7.out).mono ?_); rintro e w9 ⟨rfl, hb⟩; refine ⟨_, rfl, ?_⟩; have n0_ := Aside0.mk (below_step (bb_ HB) hb); clear HB; have HB := n0_; clear n0_; (try clear hb); (try clear hb2); (try clear hk); (try clear hi)))
 (try simp only [Act.put, sI_, s0_, sS_])
 go_cut [34] (fun v34 wc => ∃ (kq : Nat) (x34_7 : Bool), v34 = .bool x34_7 ∧ Aside0 (cohousinglaw29_ChargesMatchesReference.j0 kq a0 a1 l2 l3 l4 l5 t371 x34_7 = some r) ∧ Aside0 (kq ≤ k) ∧ Aside0 (Below w.heap.size w wc))
 case first =>
  have H := HC8.out
  clear HC8
  replace H := Option.bind_eq_some_iff.mp H
  obtain ⟨t372, A100, H⟩ := H
  replace H : (if t372 = true then (cohousinglaw29_ChargesMatchesReference.j0 k a0 a1 l2 l3 l4 l5 t371 (decide ((l3.length : Int) > 20))) else (cohousinglaw29_ChargesMatchesReference.j0 k a0 a1 l2 l3 l4 l5 t371 true)) = some r := H
  have A10 := Aside0.mk A100
  clear A100
  by_cases c11 : t372 = true
  ·subst c11
   have H1 : (cohousinglaw29_ChargesMatchesReference.j0 k a0 a1 l2 l3 l4 l5 t371 (decide ((l3.length : Int) > 20))) = some r := by rw [if_pos rfl] at H; exact H
   clear H
   have H := H1
   clear H1
   have H' := Aside0.mk H
   clear H
   go_wp2_with (first | ((with_reducible refine gate_callee (f := 21) rfl ?_); refine gl_ (some 28) Try.func21 #[.slice A4 l4.length c4, .slice A5 l5.length c5, .slice A2 l2.length c2] ?_; (with_reducible refine (cohousinglaw29_few.calls _ _ l4 _ _ l5 _ _ l2 true _ ?side1 ?side2 ?side3 ?side4 ?side5 ?side6 A10.out).mono ?_); (case side1 => exact cc_ ((Kd.C_below HR4.out HB.out))); (case side2 => exact HC4.out); (case side3 => exact cc_ ((Kd.C_below HR5.out HB.out))); (case side4 => exact HC5.out); (case side5 => exact cc_ ((Kd.C_below HR2.out HB.out))); (case side6 => exact HC2.out); rintro e w' ⟨rfl, ⟨nd, rfl⟩⟩; refine ⟨_, rfl, ?_⟩))
   go_meet
   case rel => exact ⟨_, (decide ((l3.length : Int) > 20)), sd_, H', ⟨by first | omega | exact Nat.le_refl _⟩, ⟨by repeat (first | (with_reducible first | exact HB.out | apply below_alloc | apply pw_below_drewN | apply below_drew1) | exact HB.out)⟩⟩
  ·replace c11 := Bool.eq_false_iff.mpr c11
   subst c11
   have H1 : (cohousinglaw29_ChargesMatchesReference.j0 k a0 a1 l2 l3 l4 l5 t371 true) = some r := by rw [if_neg (show ¬ (false = true) by decide)] at H; exact H
   clear H
   have H := H1
   clear H1
   have H' := Aside0.mk H
   clear H
   go_wp2_with (first | ((with_reducible refine gate_callee (f := 21) rfl ?_); refine gl_ (some 28) Try.func21 #[.slice A4 l4.length c4, .slice A5 l5.length c5, .slice A2 l2.length c2] ?_; (with_reducible refine (cohousinglaw29_few.calls _ _ l4 _ _ l5 _ _ l2 false _ ?side1 ?side2 ?side3 ?side4 ?side5 ?side6 A10.out).mono ?_); (case side1 => exact cc_ ((Kd.C_below HR4.out HB.out))); (case side2 => exact HC4.out); (case side3 => exact cc_ ((Kd.C_below HR5.out HB.out))); (case side4 => exact HC5.out); (case side5 => exact cc_ ((Kd.C_below HR2.out HB.out))); (case side6 => exact HC2.out); rintro e w' ⟨rfl, ⟨nd, rfl⟩⟩; refine ⟨_, rfl, ?_⟩))
   go_meet
   case rel => exact ⟨_, (true), sd_, H', ⟨by first | omega | exact Nat.le_refl _⟩, ⟨by repeat (first | (with_reducible first | exact HB.out | apply below_alloc | apply pw_below_drewN | apply below_drew1) | exact HB.out)⟩⟩
 case rest =>
  clear HC8
  try clear c1
  try clear c2
  try clear p2
  try clear c3
  try clear c4
  try clear c5
  try clear c11
  obtain ⟨kq, x34_7, rfl, HA, HJ7, HB⟩ := hcut
  cases kq with
  | zero => exact absurd HA.out (by simp [cohousinglaw29_ChargesMatchesReference.j0])
  | succ kj7 =>
   have H := HA.out
   clear HA
   simp only [cohousinglaw29_ChargesMatchesReference.j0] at H
   by_cases c12 : x34_7 = true
   ·subst c12
    have H1 : (some t371) = some r := by rw [if_pos rfl] at H; exact H
    clear H
    have H := H1
    clear H1
    obtain rfl := Option.some.inj H
    go_wp2
    go_ret
    exact ⟨ew_, by repeat (first | (with_reducible first | exact HB.out | apply below_alloc | apply pw_below_drewN | apply below_drew1) | exact HB.out)⟩
   ·replace c12 := Bool.eq_false_iff.mpr c12
    subst c12
    have H1 : ((charges_Bounds.f a0 a1 l3).bind fun bt373 => ((cohousingref29_Bounds.f kj7 a0 a1 l3).bind fun bt377 => (if t371 = true then ((cohousingref28_Same.f kj7 bt373.1 bt377.1).bind fun t381 => (if t381 = true then (cohousinglaw29_ChargesMatchesReference.j1 kj7 a0 a1 l2 l3 l4 l5 (bt373.2 == bt377.2)) else (cohousinglaw29_ChargesMatchesReference.j1 kj7 a0 a1 l2 l3 l4 l5 false))) else (cohousinglaw29_ChargesMatchesReference.j1 kj7 a0 a1 l2 l3 l4 l5 false)))) = some r := by rw [if_neg (show ¬ (false = true) by decide)] at H; exact H
    clear H
    have H := H1
    clear H1
    replace H := Option.bind_eq_some_iff.mp H
    obtain ⟨⟨t373, t374⟩, A130, H⟩ := H
    replace H : ((cohousingref29_Bounds.f kj7 a0 a1 l3).bind fun bt377 => (if t371 = true then ((cohousingref28_Same.f kj7 t373 bt377.1).bind fun t381 => (if t381 = true then (cohousinglaw29_ChargesMatchesReference.j1 kj7 a0 a1 l2 l3 l4 l5 (t374 == bt377.2)) else (cohousinglaw29_ChargesMatchesReference.j1 kj7 a0 a1 l2 l3 l4 l5 false))) else (cohousinglaw29_ChargesMatchesReference.j1 kj7 a0 a1 l2 l3 l4 l5 false))) = some r := H
    have A13 := Aside0.mk A130
    clear A130
    replace H := Option.bind_eq_some_iff.mp H
    obtain ⟨⟨t377, t378⟩, A140, H⟩ := H
    replace H : (if t371 = true then ((cohousingref28_Same.f kj7 t373 t377).bind fun t381 => (if t381 = true then (cohousinglaw29_ChargesMatchesReference.j1 kj7 a0 a1 l2 l3 l4 l5 (t374 == t378)) else (cohousinglaw29_ChargesMatchesReference.j1 kj7 a0 a1 l2 l3 l4 l5 false))) else (cohousinglaw29_ChargesMatchesReference.j1 kj7 a0 a1 l2 l3 l4 l5 false)) = some r := H
    have A14 := Aside0.mk A140
    clear A140
    have HC15 := Aside0.mk H
    clear H
    go_upto_region 6 with (first | ((with_reducible refine gate_callee (f := 22) rfl ?_); refine gl_ (some 40) Try.func22 #[.int .i64 a0, .int .i64 a1, .slice A3 l3.length c3] ?_; (with_reducible refine (charges_Bounds.calls a0 a1 _ _ l3 t373 t374 _ ?side1 ?side2 A13.out).mono ?_); (case side1 => exact cc_ ((Kd.C_below HR3.out HB.out))); (case side2 => exact HC3.out); rintro e w16 ⟨v375, rfl, ho0, hb⟩; refine ⟨_, rfl, ?_⟩; have n0_ := Aside0.mk (Kd.R_lower ho0 (below_size (bb_ HB))); have n1_ := Aside0.mk (below_step (bb_ HB) hb); clear HB; have HO376 := n0_; have HB := n1_; clear n0_ n1_; (try clear hb); (try clear hb2); (try clear hk); (try clear hi); (try clear ho0)) | ((with_reducible refine gate_callee (f := 23) rfl ?_); refine gl_ (some 47) Try.func23 #[.int .i64 a0, .int .i64 a1, .slice A3 l3.length c3] ?_; (with_reducible refine (cohousingref29_Bounds.calls kj7 a0 a1 _ _ l3 t377 t378 _ ?side1 ?side2 A14.out).mono ?_); (case side1 => exact cc_ ((Kd.C_below HR3.out HB.out))); (case side2 => exact HC3.out); rintro e w17 ⟨v379, rfl, ho0, hb⟩; refine ⟨_, rfl, ?_⟩; have n0_ := Aside0.mk (Kd.R_elder' (rr_ HO376) (Kd.R_base ho0) hb); have n1_ := Aside0.mk (Kd.R_lower (Kd.R_new' ho0 (Kd.R_lt (rr_ HO376))) (below_size (bb_ HB))); have n2_ := Aside0.mk (below_step (bb_ HB) hb); clear HO376; clear HB; have HO376 := n0_; have HO380 := n1_; have HB := n2_; clear n0_ n1_ n2_; (try clear hb); (try clear hb2); (try clear hk); (try clear hi); (try clear ho0)))
    (try simp only [Act.put, sI_, s0_, sS_])
    go_cut [13] (fun v13 wc => ∃ (kq : Nat) (x13_14 : Bool), v13 = .bool x13_14 ∧ Aside0 (cohousinglaw29_ChargesMatchesReference.j1 kq a0 a1 l2 l3 l4 l5 x13_14 = some r) ∧ Aside0 (kq ≤ kj7) ∧ Aside0 (Below w.heap.size w wc))
    case first =>
     have H := HC15.out
     clear HC15
     by_cases c18 : t371 = true
     ·subst c18
      have H1 : ((cohousingref28_Same.f kj7 t373 t377).bind fun t381 => (if t381 = true then (cohousinglaw29_ChargesMatchesReference.j1 kj7 a0 a1 l2 l3 l4 l5 (t374 == t378)) else (cohousinglaw29_ChargesMatchesReference.j1 kj7 a0 a1 l2 l3 l4 l5 false))) = some r := by rw [if_pos rfl] at H; exact H
      clear H
      have H := H1
      clear H1
      replace H := Option.bind_eq_some_iff.mp H
      obtain ⟨t381, A190, H⟩ := H
      replace H : (if t381 = true then (cohousinglaw29_ChargesMatchesReference.j1 kj7 a0 a1 l2 l3 l4 l5 (t374 == t378)) else (cohousinglaw29_ChargesMatchesReference.j1 kj7 a0 a1 l2 l3 l4 l5 false)) = some r := H
      have A19 := Aside0.mk A190
      clear A190
      by_cases c20 : t381 = true
      ·subst c20
       have H1 : (cohousinglaw29_ChargesMatchesReference.j1 kj7 a0 a1 l2 l3 l4 l5 (t374 == t378)) = some r := by rw [if_pos rfl] at H; exact H
       clear H
       have H := H1
       clear H1
       have H' := Aside0.mk H
       clear H
       obtain ⟨Ao21, co21, eo21⟩ := Kd.R_slice HO376.out
       subst eo21
       obtain ⟨Ao22, co22, eo22⟩ := Kd.R_slice HO380.out
       subst eo22
       go_wp2_with (first | (go_at_call 24; (with_reducible refine (cohousingref28_Same.calls kj7 _ _ t373 _ _ t377 true _ ?side1 ?side2 ?side3 ?side4 A19.out).mono ?_); (case side1 => exact cc_ ((Kd.R_reads' HO376.out).2.2)); (case side2 => exact (Kd.R_reads' HO376.out).2.1); (case side3 => exact cc_ ((Kd.R_reads' HO380.out).2.2)); (case side4 => exact (Kd.R_reads' HO380.out).2.1); rintro e w' ⟨rfl, ⟨nd, rfl⟩⟩))
       go_meet
       case rel => exact ⟨_, ((t374 == t378)), sd_, H', ⟨by have := HJ7.out; first | omega | exact Nat.le_refl _⟩, ⟨by repeat (first | (with_reducible first | exact HB.out | apply below_alloc | apply pw_below_drewN | apply below_drew1) | exact HB.out)⟩⟩
      ·replace c20 := Bool.eq_false_iff.mpr c20
       subst c20
       have H1 : (cohousinglaw29_ChargesMatchesReference.j1 kj7 a0 a1 l2 l3 l4 l5 false) = some r := by rw [if_neg (show ¬ (false = true) by decide)] at H; exact H
       clear H
       have H := H1
       clear H1
       have H' := Aside0.mk H
       clear H
       obtain ⟨Ao23, co23, eo23⟩ := Kd.R_slice HO376.out
       subst eo23
       obtain ⟨Ao24, co24, eo24⟩ := Kd.R_slice HO380.out
       subst eo24
       go_wp2_with (first | (go_at_call 24; (with_reducible refine (cohousingref28_Same.calls kj7 _ _ t373 _ _ t377 false _ ?side1 ?side2 ?side3 ?side4 A19.out).mono ?_); (case side1 => exact cc_ ((Kd.R_reads' HO376.out).2.2)); (case side2 => exact (Kd.R_reads' HO376.out).2.1); (case side3 => exact cc_ ((Kd.R_reads' HO380.out).2.2)); (case side4 => exact (Kd.R_reads' HO380.out).2.1); rintro e w' ⟨rfl, ⟨nd, rfl⟩⟩))
       go_meet
       case rel => exact ⟨_, (false), sd_, H', ⟨by have := HJ7.out; first | omega | exact Nat.le_refl _⟩, ⟨by repeat (first | (with_reducible first | exact HB.out | apply below_alloc | apply pw_below_drewN | apply below_drew1) | exact HB.out)⟩⟩
     ·replace c18 := Bool.eq_false_iff.mpr c18
      subst c18
      have H1 : (cohousinglaw29_ChargesMatchesReference.j1 kj7 a0 a1 l2 l3 l4 l5 false) = some r := by rw [if_neg (show ¬ (false = true) by decide)] at H; exact H
      clear H
      have H := H1
      clear H1
      have H' := Aside0.mk H
      clear H
      go_wp2
      go_meet
      case rel => exact ⟨_, (false), sd_, H', ⟨by have := HJ7.out; first | omega | exact Nat.le_refl _⟩, ⟨by repeat (first | (with_reducible first | exact HB.out | apply below_alloc | apply pw_below_drewN | apply below_drew1) | exact HB.out)⟩⟩
    case rest =>
     clear HC15
     try clear c1
     try clear c2
     try clear p2
     try clear c3
     try clear c4
     try clear c5
     try clear c11
     try clear c12
     try clear c18
     try clear c20
     try clear c21
     try clear c22
     try clear c23
     try clear p2
     obtain ⟨kq, x13_14, rfl, HA, HJ14, HB⟩ := hcut
     cases kq with
     | zero => exact absurd HA.out (by simp [cohousinglaw29_ChargesMatchesReference.j1])
     | succ kj14 =>
      have H := HA.out
      clear HA
      simp only [cohousinglaw29_ChargesMatchesReference.j1] at H
      replace H := Option.bind_eq_some_iff.mp H
      obtain ⟨⟨t382, t383, t384⟩, A250, H⟩ := H
      replace H : ((cohousingref29_Share.f kj14 a0 a1 l2 l3).bind fun bt387 => (if x13_14 = true then ((cohousingref29_Same.f kj14 t382 bt387.1).bind fun t392 => (if t392 = true then (if t383 = bt387.2.1 then ((charges_Network.f a0 l4 l5 l2).bind fun bt393 => ((cohousingref29_Network.f kj14 a0 l4 l5 l2).bind fun bt398 => (if t384 = bt387.2.2 then ((cohousingref29_Same.f kj14 bt393.1 bt398.1).bind fun t403 => (if t403 = true then (if bt393.2.1 = bt398.2.1 then (some (bt393.2.2 == bt398.2.2)) else (some false)) else (some false))) else (some false)))) else ((charges_Network.f a0 l4 l5 l2).bind fun bt404 => ((cohousingref29_Network.f kj14 a0 l4 l5 l2).bind fun bt409 => (some false)))) else ((charges_Network.f a0 l4 l5 l2).bind fun bt414 => ((cohousingref29_Network.f kj14 a0 l4 l5 l2).bind fun bt419 => (some false))))) else ((charges_Network.f a0 l4 l5 l2).bind fun bt424 => ((cohousingref29_Network.f kj14 a0 l4 l5 l2).bind fun bt429 => (some false))))) = some r := H
      have A25 := Aside0.mk A250
      clear A250
      replace H := Option.bind_eq_some_iff.mp H
      obtain ⟨⟨t387, t388, t389⟩, A260, H⟩ := H
      replace H : (if x13_14 = true then ((cohousingref29_Same.f kj14 t382 t387).bind fun t392 => (if t392 = true then (if t383 = t388 then ((charges_Network.f a0 l4 l5 l2).bind fun bt393 => ((cohousingref29_Network.f kj14 a0 l4 l5 l2).bind fun bt398 => (if t384 = t389 then ((cohousingref29_Same.f kj14 bt393.1 bt398.1).bind fun t403 => (if t403 = true then (if bt393.2.1 = bt398.2.1 then (some (bt393.2.2 == bt398.2.2)) else (some false)) else (some false))) else (some false)))) else ((charges_Network.f a0 l4 l5 l2).bind fun bt404 => ((cohousingref29_Network.f kj14 a0 l4 l5 l2).bind fun bt409 => (some false)))) else ((charges_Network.f a0 l4 l5 l2).bind fun bt414 => ((cohousingref29_Network.f kj14 a0 l4 l5 l2).bind fun bt419 => (some false))))) else ((charges_Network.f a0 l4 l5 l2).bind fun bt424 => ((cohousingref29_Network.f kj14 a0 l4 l5 l2).bind fun bt429 => (some false)))) = some r := H
      have A26 := Aside0.mk A260
      clear A260
      go_wp2_with (first | ((with_reducible refine gate_callee (f := 25) rfl ?_); refine gl_ (some 66) Try.func25 #[.int .i64 a0, .int .i64 a1, .slice A2 l2.length c2, .slice A3 l3.length c3] ?_; (with_reducible refine (charges_Share.calls a0 a1 _ _ l2 _ _ l3 t382 t383 t384 _ ?side1 ?side2 ?side3 ?side4 A25.out).mono ?_); (case side1 => exact cc_ ((Kd.C_below HR2.out HB.out))); (case side2 => exact HC2.out); (case side3 => exact cc_ ((Kd.C_below HR3.out HB.out))); (case side4 => exact HC3.out); rintro e w37 ⟨v385, rfl, ho0, hb⟩; refine ⟨_, rfl, ?_⟩; have n0_ := Aside0.mk (Kd.R_lower ho0 (below_size (bb_ HB))); have n1_ := Aside0.mk (below_step (bb_ HB) hb); clear HB; have HO386 := n0_; have HB := n1_; clear n0_ n1_; (try clear hb); (try clear hb2); (try clear hk); (try clear hi); (try clear ho0); refine held5_ ?_))
      by_cases c27 : x13_14 = true
      ·subst c27
       have H1 : ((cohousingref29_Same.f kj14 t382 t387).bind fun t392 => (if t392 = true then (if t383 = t388 then ((charges_Network.f a0 l4 l5 l2).bind fun bt393 => ((cohousingref29_Network.f kj14 a0 l4 l5 l2).bind fun bt398 => (if t384 = t389 then ((cohousingref29_Same.f kj14 bt393.1 bt398.1).bind fun t403 => (if t403 = true then (if bt393.2.1 = bt398.2.1 then (some (bt393.2.2 == bt398.2.2)) else (some false)) else (some false))) else (some false)))) else ((charges_Network.f a0 l4 l5 l2).bind fun bt404 => ((cohousingref29_Network.f kj14 a0 l4 l5 l2).bind fun bt409 => (some false)))) else ((charges_Network.f a0 l4 l5 l2).bind fun bt414 => ((cohousingref29_Network.f kj14 a0 l4 l5 l2).bind fun bt419 => (some false))))) = some r := by rw [if_pos rfl] at H; exact H
       clear H
       have H := H1
       clear H1
       replace H := Option.bind_eq_some_iff.mp H
       obtain ⟨t392, A280, H⟩ := H
       replace H : (if t392 = true then (if t383 = t388 then ((charges_Network.f a0 l4 l5 l2).bind fun bt393 => ((cohousingref29_Network.f kj14 a0 l4 l5 l2).bind fun bt398 => (if t384 = t389 then ((cohousingref29_Same.f kj14 bt393.1 bt398.1).bind fun t403 => (if t403 = true then (if bt393.2.1 = bt398.2.1 then (some (bt393.2.2 == bt398.2.2)) else (some false)) else (some false))) else (some false)))) else ((charges_Network.f a0 l4 l5 l2).bind fun bt404 => ((cohousingref29_Network.f kj14 a0 l4 l5 l2).bind fun bt409 => (some false)))) else ((charges_Network.f a0 l4 l5 l2).bind fun bt414 => ((cohousingref29_Network.f kj14 a0 l4 l5 l2).bind fun bt419 => (some false)))) = some r := H
       have A28 := Aside0.mk A280
       clear A280
       refine unheld5_ ?_
       go_wp2_with (first | ((with_reducible refine gate_callee (f := 26) rfl ?_); refine gl_ (some 75) Try.func26 #[.int .i64 a0, .int .i64 a1, .slice A2 l2.length c2, .slice A3 l3.length c3] ?_; (with_reducible refine (cohousingref29_Share.calls kj14 a0 a1 _ _ l2 _ _ l3 t387 t388 t389 _ ?side1 ?side2 ?side3 ?side4 A26.out).mono ?_); (case side1 => exact cc_ ((Kd.C_below HR2.out HB.out))); (case side2 => exact HC2.out); (case side3 => exact cc_ ((Kd.C_below HR3.out HB.out))); (case side4 => exact HC3.out); rintro e w38 ⟨v390, rfl, ho0, hb⟩; refine ⟨_, rfl, ?_⟩; have n0_ := Aside0.mk (Kd.R_elder' (rr_ HO386) (Kd.R_base ho0) hb); have n1_ := Aside0.mk (Kd.R_lower (Kd.R_new' ho0 (Kd.R_lt (rr_ HO386))) (below_size (bb_ HB))); have n2_ := Aside0.mk (below_step (bb_ HB) hb); clear HO386; clear HB; have HO386 := n0_; have HO391 := n1_; have HB := n2_; clear n0_ n1_ n2_; (try clear hb); (try clear hb2); (try clear hk); (try clear hi); (try clear ho0); obtain ⟨Ao39, co39, eo39⟩ := Kd.R_slice HO386.out; subst eo39; obtain ⟨Ao40, co40, eo40⟩ := Kd.R_slice HO391.out; subst eo40; refine held5_ ?_))
       by_cases c29 : t392 = true
       ·subst c29
        have H1 : (if t383 = t388 then ((charges_Network.f a0 l4 l5 l2).bind fun bt393 => ((cohousingref29_Network.f kj14 a0 l4 l5 l2).bind fun bt398 => (if t384 = t389 then ((cohousingref29_Same.f kj14 bt393.1 bt398.1).bind fun t403 => (if t403 = true then (if bt393.2.1 = bt398.2.1 then (some (bt393.2.2 == bt398.2.2)) else (some false)) else (some false))) else (some false)))) else ((charges_Network.f a0 l4 l5 l2).bind fun bt404 => ((cohousingref29_Network.f kj14 a0 l4 l5 l2).bind fun bt409 => (some false)))) = some r := by rw [if_pos rfl] at H; exact H
        clear H
        have H := H1
        clear H1
        refine unheld5_ ?_
        go_wp2_with (first | (go_at_call 27; (with_reducible refine (cohousingref29_Same.calls kj14 _ _ t382 _ _ t387 true _ ?side1 ?side2 ?side3 ?side4 A28.out).mono ?_); (case side1 => exact cc_ ((Kd.R_reads' HO386.out).2.2)); (case side2 => exact (Kd.R_reads' HO386.out).2.1); (case side3 => exact cc_ ((Kd.R_reads' HO391.out).2.2)); (case side4 => exact (Kd.R_reads' HO391.out).2.1); rintro e w' ⟨rfl, ⟨nd, rfl⟩⟩; refine held5_ ?_))
        by_cases c30 : t383 = t388
        ·rw [if_pos c30] at H
         have c30b0 : (t383 == t388) = true := beq_iff_eq.mpr c30
         have c30b1 : (t383 != t388) = false := bne_eq_false_iff_eq.mpr c30
         clear c30
         replace H := Option.bind_eq_some_iff.mp H
         obtain ⟨⟨t393, t394, t395⟩, A310, H⟩ := H
         replace H : ((cohousingref29_Network.f kj14 a0 l4 l5 l2).bind fun bt398 => (if t384 = t389 then ((cohousingref29_Same.f kj14 t393 bt398.1).bind fun t403 => (if t403 = true then (if t394 = bt398.2.1 then (some (t395 == bt398.2.2)) else (some false)) else (some false))) else (some false))) = some r := H
         have A31 := Aside0.mk A310
         clear A310
         replace H := Option.bind_eq_some_iff.mp H
         obtain ⟨⟨t398, t399, t400⟩, A320, H⟩ := H
         replace H : (if t384 = t389 then ((cohousingref29_Same.f kj14 t393 t398).bind fun t403 => (if t403 = true then (if t394 = t399 then (some (t395 == t400)) else (some false)) else (some false))) else (some false)) = some r := H
         have A32 := Aside0.mk A320
         clear A320
         refine unheld5_ ?_
         go_wp2_with (first | ((with_reducible refine gate_callee (f := 14) rfl ?_); refine gl_ (some 100) Try.func14 #[.int .i64 a0, .slice A4 l4.length c4, .slice A5 l5.length c5, .slice A2 l2.length c2] ?_; (with_reducible refine (charges_Network.calls a0 _ _ l4 _ _ l5 _ _ l2 t393 t394 t395 _ ?side1 ?side2 ?side3 ?side4 ?side5 ?side6 A31.out).mono ?_); (case side1 => exact cc_ ((Kd.C_below HR4.out (bb_ HB)))); (case side2 => exact HC4.out); (case side3 => exact cc_ ((Kd.C_below HR5.out (bb_ HB)))); (case side4 => exact HC5.out); (case side5 => exact cc_ ((Kd.C_below HR2.out (bb_ HB)))); (case side6 => exact HC2.out); rintro e w41 ⟨v396, rfl, ho0, hb⟩; refine ⟨_, rfl, ?_⟩; have n0_ := Aside0.mk (Kd.R_elder' (rr_ HO386) (Kd.R_base ho0) hb); have n1_ := Aside0.mk (Kd.R_elder' (rr_ HO391) (Kd.R_base ho0) hb); have n2_ := Aside0.mk (Kd.R_lower (Kd.R_new' (Kd.R_new' ho0 (Kd.R_lt (rr_ HO386))) (Kd.R_lt (rr_ HO391))) (below_size (bb_ HB))); have n3_ := Aside0.mk (below_step (bb_ HB) hb); clear HO386; clear HO391; clear HB; have HO386 := n0_; have HO391 := n1_; have HO397 := n2_; have HB := n3_; clear n0_ n1_ n2_ n3_; (try clear hb); (try clear hb2); (try clear hk); (try clear hi); (try clear ho0); refine held5_ ?_))
         by_cases c33 : t384 = t389
         ·rw [if_pos c33] at H
          have c33b0 : (t384 == t389) = true := beq_iff_eq.mpr c33
          have c33b1 : (t384 != t389) = false := bne_eq_false_iff_eq.mpr c33
          clear c33
          replace H := Option.bind_eq_some_iff.mp H
          obtain ⟨t403, A340, H⟩ := H
          replace H : (if t403 = true then (if t394 = t399 then (some (t395 == t400)) else (some false)) else (some false)) = some r := H
          have A34 := Aside0.mk A340
          clear A340
          refine unheld5_ ?_
          go_wp2_with (first | ((with_reducible refine gate_callee (f := 28) rfl ?_); refine gl_ (some 109) Try.func28 #[.int .i64 a0, .slice A4 l4.length c4, .slice A5 l5.length c5, .slice A2 l2.length c2] ?_; (with_reducible refine (cohousingref29_Network.calls kj14 a0 _ _ l4 _ _ l5 _ _ l2 t398 t399 t400 _ ?side1 ?side2 ?side3 ?side4 ?side5 ?side6 A32.out).mono ?_); (case side1 => exact cc_ ((Kd.C_below HR4.out HB.out))); (case side2 => exact HC4.out); (case side3 => exact cc_ ((Kd.C_below HR5.out HB.out))); (case side4 => exact HC5.out); (case side5 => exact cc_ ((Kd.C_below HR2.out HB.out))); (case side6 => exact HC2.out); rintro e w42 ⟨v401, rfl, ho0, hb⟩; refine ⟨_, rfl, ?_⟩; have n0_ := Aside0.mk (Kd.R_elder' (rr_ HO386) (Kd.R_base ho0) hb); have n1_ := Aside0.mk (Kd.R_elder' (rr_ HO391) (Kd.R_base ho0) hb); have n2_ := Aside0.mk (Kd.R_elder' (rr_ HO397) (Kd.R_base ho0) hb); have n3_ := Aside0.mk (Kd.R_lower (Kd.R_new' (Kd.R_new' (Kd.R_new' ho0 (Kd.R_lt (rr_ HO386))) (Kd.R_lt (rr_ HO391))) (Kd.R_lt (rr_ HO397))) (below_size (bb_ HB))); have n4_ := Aside0.mk (below_step (bb_ HB) hb); clear HO386; clear HO391; clear HO397; clear HB; have HO386 := n0_; have HO391 := n1_; have HO397 := n2_; have HO402 := n3_; have HB := n4_; clear n0_ n1_ n2_ n3_ n4_; (try clear hb); (try clear hb2); (try clear hk); (try clear hi); (try clear ho0); obtain ⟨Ao43, co43, eo43⟩ := Kd.R_slice HO397.out; subst eo43; obtain ⟨Ao44, co44, eo44⟩ := Kd.R_slice HO402.out; subst eo44; refine held5_ ?_))
          by_cases c35 : t403 = true
          ·subst c35
           have H1 : (if t394 = t399 then (some (t395 == t400)) else (some false)) = some r := by rw [if_pos rfl] at H; exact H
           clear H
           have H := H1
           clear H1
           refine unheld5_ ?_
           go_wp2_with (first | (go_at_call 27; (with_reducible refine (cohousingref29_Same.calls kj14 _ _ t393 _ _ t398 true _ ?side1 ?side2 ?side3 ?side4 A34.out).mono ?_); (case side1 => exact cc_ ((Kd.R_reads' HO397.out).2.2)); (case side2 => exact (Kd.R_reads' HO397.out).2.1); (case side3 => exact cc_ ((Kd.R_reads' HO402.out).2.2)); (case side4 => exact (Kd.R_reads' HO402.out).2.1); rintro e w' ⟨rfl, ⟨nd, rfl⟩⟩; refine held5_ ?_))
           by_cases c36 : t394 = t399
           ·rw [if_pos c36] at H
            have c36b0 : (t394 == t399) = true := beq_iff_eq.mpr c36
            have c36b1 : (t394 != t399) = false := bne_eq_false_iff_eq.mpr c36
            clear c36
            obtain rfl := Option.some.inj H
            refine unheld5_ ?_
            go_wp2
            go_ret
            exact ⟨ew_, by repeat (first | (with_reducible first | exact HB.out | apply below_alloc | apply pw_below_drewN | apply below_drew1) | exact HB.out)⟩
           ·rw [if_neg c36] at H
            have c36b0 : (t394 == t399) = false := beq_eq_false_iff_ne.mpr c36
            have c36b1 : (t394 != t399) = true := bne_iff_ne.mpr c36
            obtain rfl := Option.some.inj H
            refine unheld5_ ?_
            go_wp2
            go_ret
            exact ⟨ew_, by repeat (first | (with_reducible first | exact HB.out | apply below_alloc | apply pw_below_drewN | apply below_drew1) | exact HB.out)⟩
          ·replace c35 := Bool.eq_false_iff.mpr c35
           subst c35
           have H1 : (some false) = some r := by rw [if_neg (show ¬ (false = true) by decide)] at H; exact H
           clear H
           have H := H1
           clear H1
           obtain rfl := Option.some.inj H
           refine unheld5_ ?_
           go_wp2_with (first | (go_at_call 27; (with_reducible refine (cohousingref29_Same.calls kj14 _ _ t393 _ _ t398 false _ ?side1 ?side2 ?side3 ?side4 A34.out).mono ?_); (case side1 => exact cc_ ((Kd.R_reads' HO397.out).2.2)); (case side2 => exact (Kd.R_reads' HO397.out).2.1); (case side3 => exact cc_ ((Kd.R_reads' HO402.out).2.2)); (case side4 => exact (Kd.R_reads' HO402.out).2.1); rintro e w' ⟨rfl, ⟨nd, rfl⟩⟩))
           go_ret
           exact ⟨ew_, by repeat (first | (with_reducible first | exact HB.out | apply below_alloc | apply pw_below_drewN | apply below_drew1) | exact HB.out)⟩
         ·rw [if_neg c33] at H
          have c33b0 : (t384 == t389) = false := beq_eq_false_iff_ne.mpr c33
          have c33b1 : (t384 != t389) = true := bne_iff_ne.mpr c33
          obtain rfl := Option.some.inj H
          refine unheld5_ ?_
          go_wp2_with (first | ((with_reducible refine gate_callee (f := 28) rfl ?_); refine gl_ (some 109) Try.func28 #[.int .i64 a0, .slice A4 l4.length c4, .slice A5 l5.length c5, .slice A2 l2.length c2] ?_; (with_reducible refine (cohousingref29_Network.calls kj14 a0 _ _ l4 _ _ l5 _ _ l2 t398 t399 t400 _ ?side1 ?side2 ?side3 ?side4 ?side5 ?side6 A32.out).mono ?_); (case side1 => exact cc_ ((Kd.C_below HR4.out HB.out))); (case side2 => exact HC4.out); (case side3 => exact cc_ ((Kd.C_below HR5.out HB.out))); (case side4 => exact HC5.out); (case side5 => exact cc_ ((Kd.C_below HR2.out HB.out))); (case side6 => exact HC2.out); rintro e w66 ⟨v401, rfl, ho0, hb⟩; refine ⟨_, rfl, ?_⟩; have n0_ := Aside0.mk (Kd.R_elder' (rr_ HO386) (Kd.R_base ho0) hb); have n1_ := Aside0.mk (Kd.R_elder' (rr_ HO391) (Kd.R_base ho0) hb); have n2_ := Aside0.mk (Kd.R_elder' (rr_ HO397) (Kd.R_base ho0) hb); have n3_ := Aside0.mk (Kd.R_lower (Kd.R_new' (Kd.R_new' (Kd.R_new' ho0 (Kd.R_lt (rr_ HO386))) (Kd.R_lt (rr_ HO391))) (Kd.R_lt (rr_ HO397))) (below_size (bb_ HB))); have n4_ := Aside0.mk (below_step (bb_ HB) hb); clear HO386; clear HO391; clear HO397; clear HB; have HO386 := n0_; have HO391 := n1_; have HO397 := n2_; have HO402 := n3_; have HB := n4_; clear n0_ n1_ n2_ n3_ n4_; (try clear hb); (try clear hb2); (try clear hk); (try clear hi); (try clear ho0)))
          go_ret
          exact ⟨ew_, by repeat (first | (with_reducible first | exact HB.out | apply below_alloc | apply pw_below_drewN | apply below_drew1) | exact HB.out)⟩
        ·rw [if_neg c30] at H
         have c30b0 : (t383 == t388) = false := beq_eq_false_iff_ne.mpr c30
         have c30b1 : (t383 != t388) = true := bne_iff_ne.mpr c30
         replace H := Option.bind_eq_some_iff.mp H
         obtain ⟨⟨t404, t405, t406⟩, A670, H⟩ := H
         replace H : ((cohousingref29_Network.f kj14 a0 l4 l5 l2).bind fun bt409 => (some false)) = some r := H
         have A67 := Aside0.mk A670
         clear A670
         replace H := Option.bind_eq_some_iff.mp H
         obtain ⟨⟨t409, t410, t411⟩, A680, H⟩ := H
         replace H : (some false) = some r := H
         have A68 := Aside0.mk A680
         clear A680
         obtain rfl := Option.some.inj H
         refine unheld5_ ?_
         go_wp2_with (first | ((with_reducible refine gate_callee (f := 14) rfl ?_); refine gl_ (some 100) Try.func14 #[.int .i64 a0, .slice A4 l4.length c4, .slice A5 l5.length c5, .slice A2 l2.length c2] ?_; (with_reducible refine (charges_Network.calls a0 _ _ l4 _ _ l5 _ _ l2 t404 t405 t406 _ ?side1 ?side2 ?side3 ?side4 ?side5 ?side6 A67.out).mono ?_); (case side1 => exact cc_ ((Kd.C_below HR4.out (bb_ HB)))); (case side2 => exact HC4.out); (case side3 => exact cc_ ((Kd.C_below HR5.out (bb_ HB)))); (case side4 => exact HC5.out); (case side5 => exact cc_ ((Kd.C_below HR2.out (bb_ HB)))); (case side6 => exact HC2.out); rintro e w73 ⟨v407, rfl, ho0, hb⟩; refine ⟨_, rfl, ?_⟩; have n0_ := Aside0.mk (Kd.R_elder' (rr_ HO386) (Kd.R_base ho0) hb); have n1_ := Aside0.mk (Kd.R_elder' (rr_ HO391) (Kd.R_base ho0) hb); have n2_ := Aside0.mk (Kd.R_lower (Kd.R_new' (Kd.R_new' ho0 (Kd.R_lt (rr_ HO386))) (Kd.R_lt (rr_ HO391))) (below_size (bb_ HB))); have n3_ := Aside0.mk (below_step (bb_ HB) hb); clear HO386; clear HO391; clear HB; have HO386 := n0_; have HO391 := n1_; have HO408 := n2_; have HB := n3_; clear n0_ n1_ n2_ n3_; (try clear hb); (try clear hb2); (try clear hk); (try clear hi); (try clear ho0)) | ((with_reducible refine gate_callee (f := 28) rfl ?_); refine gl_ (some 109) Try.func28 #[.int .i64 a0, .slice A4 l4.length c4, .slice A5 l5.length c5, .slice A2 l2.length c2] ?_; (with_reducible refine (cohousingref29_Network.calls kj14 a0 _ _ l4 _ _ l5 _ _ l2 t409 t410 t411 _ ?side1 ?side2 ?side3 ?side4 ?side5 ?side6 A68.out).mono ?_); (case side1 => exact cc_ ((Kd.C_below HR4.out HB.out))); (case side2 => exact HC4.out); (case side3 => exact cc_ ((Kd.C_below HR5.out HB.out))); (case side4 => exact HC5.out); (case side5 => exact cc_ ((Kd.C_below HR2.out HB.out))); (case side6 => exact HC2.out); rintro e w74 ⟨v412, rfl, ho0, hb⟩; refine ⟨_, rfl, ?_⟩; have n0_ := Aside0.mk (Kd.R_elder' (rr_ HO386) (Kd.R_base ho0) hb); have n1_ := Aside0.mk (Kd.R_elder' (rr_ HO391) (Kd.R_base ho0) hb); have n2_ := Aside0.mk (Kd.R_elder' (rr_ HO408) (Kd.R_base ho0) hb); have n3_ := Aside0.mk (Kd.R_lower (Kd.R_new' (Kd.R_new' (Kd.R_new' ho0 (Kd.R_lt (rr_ HO386))) (Kd.R_lt (rr_ HO391))) (Kd.R_lt (rr_ HO408))) (below_size (bb_ HB))); have n4_ := Aside0.mk (below_step (bb_ HB) hb); clear HO386; clear HO391; clear HO408; clear HB; have HO386 := n0_; have HO391 := n1_; have HO408 := n2_; have HO413 := n3_; have HB := n4_; clear n0_ n1_ n2_ n3_ n4_; (try clear hb); (try clear hb2); (try clear hk); (try clear hi); (try clear ho0)))
         go_ret
         exact ⟨ew_, by repeat (first | (with_reducible first | exact HB.out | apply below_alloc | apply pw_below_drewN | apply below_drew1) | exact HB.out)⟩
       ·replace c29 := Bool.eq_false_iff.mpr c29
        subst c29
        have H1 : ((charges_Network.f a0 l4 l5 l2).bind fun bt414 => ((cohousingref29_Network.f kj14 a0 l4 l5 l2).bind fun bt419 => (some false))) = some r := by rw [if_neg (show ¬ (false = true) by decide)] at H; exact H
        clear H
        have H := H1
        clear H1
        replace H := Option.bind_eq_some_iff.mp H
        obtain ⟨⟨t414, t415, t416⟩, A750, H⟩ := H
        replace H : ((cohousingref29_Network.f kj14 a0 l4 l5 l2).bind fun bt419 => (some false)) = some r := H
        have A75 := Aside0.mk A750
        clear A750
        replace H := Option.bind_eq_some_iff.mp H
        obtain ⟨⟨t419, t420, t421⟩, A760, H⟩ := H
        replace H : (some false) = some r := H
        have A76 := Aside0.mk A760
        clear A760
        obtain rfl := Option.some.inj H
        refine unheld5_ ?_
        go_wp2_with (first | (go_at_call 27; (with_reducible refine (cohousingref29_Same.calls kj14 _ _ t382 _ _ t387 false _ ?side1 ?side2 ?side3 ?side4 A28.out).mono ?_); (case side1 => exact cc_ ((Kd.R_reads' HO386.out).2.2)); (case side2 => exact (Kd.R_reads' HO386.out).2.1); (case side3 => exact cc_ ((Kd.R_reads' HO391.out).2.2)); (case side4 => exact (Kd.R_reads' HO391.out).2.1); rintro e w' ⟨rfl, ⟨nd, rfl⟩⟩) | ((with_reducible refine gate_callee (f := 14) rfl ?_); refine gl_ (some 100) Try.func14 #[.int .i64 a0, .slice A4 l4.length c4, .slice A5 l5.length c5, .slice A2 l2.length c2] ?_; (with_reducible refine (charges_Network.calls a0 _ _ l4 _ _ l5 _ _ l2 t414 t415 t416 _ ?side1 ?side2 ?side3 ?side4 ?side5 ?side6 A75.out).mono ?_); (case side1 => exact cc_ ((Kd.C_below HR4.out (bb_ HB)))); (case side2 => exact HC4.out); (case side3 => exact cc_ ((Kd.C_below HR5.out (bb_ HB)))); (case side4 => exact HC5.out); (case side5 => exact cc_ ((Kd.C_below HR2.out (bb_ HB)))); (case side6 => exact HC2.out); rintro e w81 ⟨v417, rfl, ho0, hb⟩; refine ⟨_, rfl, ?_⟩; have n0_ := Aside0.mk (Kd.R_elder' (rr_ HO386) (Kd.R_base ho0) hb); have n1_ := Aside0.mk (Kd.R_elder' (rr_ HO391) (Kd.R_base ho0) hb); have n2_ := Aside0.mk (Kd.R_lower (Kd.R_new' (Kd.R_new' ho0 (Kd.R_lt (rr_ HO386))) (Kd.R_lt (rr_ HO391))) (below_size (bb_ HB))); have n3_ := Aside0.mk (below_step (bb_ HB) hb); clear HO386; clear HO391; clear HB; have HO386 := n0_; have HO391 := n1_; have HO418 := n2_; have HB := n3_; clear n0_ n1_ n2_ n3_; (try clear hb); (try clear hb2); (try clear hk); (try clear hi); (try clear ho0)) | ((with_reducible refine gate_callee (f := 28) rfl ?_); refine gl_ (some 109) Try.func28 #[.int .i64 a0, .slice A4 l4.length c4, .slice A5 l5.length c5, .slice A2 l2.length c2] ?_; (with_reducible refine (cohousingref29_Network.calls kj14 a0 _ _ l4 _ _ l5 _ _ l2 t419 t420 t421 _ ?side1 ?side2 ?side3 ?side4 ?side5 ?side6 A76.out).mono ?_); (case side1 => exact cc_ ((Kd.C_below HR4.out HB.out))); (case side2 => exact HC4.out); (case side3 => exact cc_ ((Kd.C_below HR5.out HB.out))); (case side4 => exact HC5.out); (case side5 => exact cc_ ((Kd.C_below HR2.out HB.out))); (case side6 => exact HC2.out); rintro e w82 ⟨v422, rfl, ho0, hb⟩; refine ⟨_, rfl, ?_⟩; have n0_ := Aside0.mk (Kd.R_elder' (rr_ HO386) (Kd.R_base ho0) hb); have n1_ := Aside0.mk (Kd.R_elder' (rr_ HO391) (Kd.R_base ho0) hb); have n2_ := Aside0.mk (Kd.R_elder' (rr_ HO418) (Kd.R_base ho0) hb); have n3_ := Aside0.mk (Kd.R_lower (Kd.R_new' (Kd.R_new' (Kd.R_new' ho0 (Kd.R_lt (rr_ HO386))) (Kd.R_lt (rr_ HO391))) (Kd.R_lt (rr_ HO418))) (below_size (bb_ HB))); have n4_ := Aside0.mk (below_step (bb_ HB) hb); clear HO386; clear HO391; clear HO418; clear HB; have HO386 := n0_; have HO391 := n1_; have HO418 := n2_; have HO423 := n3_; have HB := n4_; clear n0_ n1_ n2_ n3_ n4_; (try clear hb); (try clear hb2); (try clear hk); (try clear hi); (try clear ho0)))
        go_ret
        exact ⟨ew_, by repeat (first | (with_reducible first | exact HB.out | apply below_alloc | apply pw_below_drewN | apply below_drew1) | exact HB.out)⟩
      ·replace c27 := Bool.eq_false_iff.mpr c27
       subst c27
       have H1 : ((charges_Network.f a0 l4 l5 l2).bind fun bt424 => ((cohousingref29_Network.f kj14 a0 l4 l5 l2).bind fun bt429 => (some false))) = some r := by rw [if_neg (show ¬ (false = true) by decide)] at H; exact H
       clear H
       have H := H1
       clear H1
       replace H := Option.bind_eq_some_iff.mp H
       obtain ⟨⟨t424, t425, t426⟩, A830, H⟩ := H
       replace H : ((cohousingref29_Network.f kj14 a0 l4 l5 l2).bind fun bt429 => (some false)) = some r := H
       have A83 := Aside0.mk A830
       clear A830
       replace H := Option.bind_eq_some_iff.mp H
       obtain ⟨⟨t429, t430, t431⟩, A840, H⟩ := H
       replace H : (some false) = some r := H
       have A84 := Aside0.mk A840
       clear A840
       obtain rfl := Option.some.inj H
       refine unheld5_ ?_
       go_wp2_with (first | ((with_reducible refine gate_callee (f := 26) rfl ?_); refine gl_ (some 75) Try.func26 #[.int .i64 a0, .int .i64 a1, .slice A2 l2.length c2, .slice A3 l3.length c3] ?_; (with_reducible refine (cohousingref29_Share.calls kj14 a0 a1 _ _ l2 _ _ l3 t387 t388 t389 _ ?side1 ?side2 ?side3 ?side4 A26.out).mono ?_); (case side1 => exact cc_ ((Kd.C_below HR2.out HB.out))); (case side2 => exact HC2.out); (case side3 => exact cc_ ((Kd.C_below HR3.out HB.out))); (case side4 => exact HC3.out); rintro e w86 ⟨v390, rfl, ho0, hb⟩; refine ⟨_, rfl, ?_⟩; have n0_ := Aside0.mk (Kd.R_elder' (rr_ HO386) (Kd.R_base ho0) hb); have n1_ := Aside0.mk (Kd.R_lower (Kd.R_new' ho0 (Kd.R_lt (rr_ HO386))) (below_size (bb_ HB))); have n2_ := Aside0.mk (below_step (bb_ HB) hb); clear HO386; clear HB; have HO386 := n0_; have HO391 := n1_; have HB := n2_; clear n0_ n1_ n2_; (try clear hb); (try clear hb2); (try clear hk); (try clear hi); (try clear ho0)) | ((with_reducible refine gate_callee (f := 14) rfl ?_); refine gl_ (some 100) Try.func14 #[.int .i64 a0, .slice A4 l4.length c4, .slice A5 l5.length c5, .slice A2 l2.length c2] ?_; (with_reducible refine (charges_Network.calls a0 _ _ l4 _ _ l5 _ _ l2 t424 t425 t426 _ ?side1 ?side2 ?side3 ?side4 ?side5 ?side6 A83.out).mono ?_); (case side1 => exact cc_ ((Kd.C_below HR4.out HB.out))); (case side2 => exact HC4.out); (case side3 => exact cc_ ((Kd.C_below HR5.out HB.out))); (case side4 => exact HC5.out); (case side5 => exact cc_ ((Kd.C_below HR2.out HB.out))); (case side6 => exact HC2.out); rintro e w87 ⟨v427, rfl, ho0, hb⟩; refine ⟨_, rfl, ?_⟩; have n0_ := Aside0.mk (Kd.R_elder' (rr_ HO386) (Kd.R_base ho0) hb); have n1_ := Aside0.mk (Kd.R_elder' (rr_ HO391) (Kd.R_base ho0) hb); have n2_ := Aside0.mk (Kd.R_lower (Kd.R_new' (Kd.R_new' ho0 (Kd.R_lt (rr_ HO386))) (Kd.R_lt (rr_ HO391))) (below_size (bb_ HB))); have n3_ := Aside0.mk (below_step (bb_ HB) hb); clear HO386; clear HO391; clear HB; have HO386 := n0_; have HO391 := n1_; have HO428 := n2_; have HB := n3_; clear n0_ n1_ n2_ n3_; (try clear hb); (try clear hb2); (try clear hk); (try clear hi); (try clear ho0)) | ((with_reducible refine gate_callee (f := 28) rfl ?_); refine gl_ (some 109) Try.func28 #[.int .i64 a0, .slice A4 l4.length c4, .slice A5 l5.length c5, .slice A2 l2.length c2] ?_; (with_reducible refine (cohousingref29_Network.calls kj14 a0 _ _ l4 _ _ l5 _ _ l2 t429 t430 t431 _ ?side1 ?side2 ?side3 ?side4 ?side5 ?side6 A84.out).mono ?_); (case side1 => exact cc_ ((Kd.C_below HR4.out HB.out))); (case side2 => exact HC4.out); (case side3 => exact cc_ ((Kd.C_below HR5.out HB.out))); (case side4 => exact HC5.out); (case side5 => exact cc_ ((Kd.C_below HR2.out HB.out))); (case side6 => exact HC2.out); rintro e w88 ⟨v432, rfl, ho0, hb⟩; refine ⟨_, rfl, ?_⟩; have n0_ := Aside0.mk (Kd.R_elder' (rr_ HO386) (Kd.R_base ho0) hb); have n1_ := Aside0.mk (Kd.R_elder' (rr_ HO391) (Kd.R_base ho0) hb); have n2_ := Aside0.mk (Kd.R_elder' (rr_ HO428) (Kd.R_base ho0) hb); have n3_ := Aside0.mk (Kd.R_lower (Kd.R_new' (Kd.R_new' (Kd.R_new' ho0 (Kd.R_lt (rr_ HO386))) (Kd.R_lt (rr_ HO391))) (Kd.R_lt (rr_ HO428))) (below_size (bb_ HB))); have n4_ := Aside0.mk (below_step (bb_ HB) hb); clear HO386; clear HO391; clear HO428; clear HB; have HO386 := n0_; have HO391 := n1_; have HO428 := n2_; have HO433 := n3_; have HB := n4_; clear n0_ n1_ n2_ n3_ n4_; (try clear hb); (try clear hb2); (try clear hk); (try clear hi); (try clear ho0)))
       go_ret
       exact ⟨ew_, by repeat (first | (with_reducible first | exact HB.out | apply below_alloc | apply pw_below_drewN | apply below_drew1) | exact HB.out)⟩
end
end Go.Proofs.Ytbgchacafglcpaa.P
end
section
namespace Go.Proofs.Ytbgchacafglcpaa.P
open Go.RowKit Go.Proofs.YtbgchacafglcpaaW.PrintWords Go.Proofs.YtbgchacafglcpaaW.PrintLast Go.Proofs.YtbgchacafglcpaaW.PrintMore Go.Proofs.YtbgchacafglcpaaH Go.Proofs.FlowTree
theorem Ev.of_mono {α : Type} {f : Nat → Option α} {r : α} (k0 : Nat) (h0 : f k0 = some r) (h : ∀ k, LeO (f k) (f (k + 1))) : Ev f r := by
 refine ⟨k0, fun k hk => ?_⟩
 obtain ⟨d, rfl⟩ : ∃ d, k = k0 + d := ⟨k - k0, by omega⟩
 induction d with
 | zero => exact h0
 | succ d ih => exact h _ _ (ih (by omega))
theorem head_ev : Ev (fun k => cohousinglaw29_head.f k) true := Ev.of_mono 60 (by kernel_rfl) (fun k => cohousinglaw29_head.mono k)
section
variable {c t : Int} {l : List RGE}
end
end Go.Proofs.Ytbgchacafglcpaa.P
end
section
namespace Go.Proofs.Ytbgchacafglcpaa.P
open Go.RowKit Go.Proofs.YtbgchacafglcpaaW.PrintWords Go.Proofs.YtbgchacafglcpaaW.PrintLast Go.Proofs.YtbgchacafglcpaaW.PrintMore Go.Proofs.YtbgchacafglcpaaH Go.Proofs.FlowTree
open Classical
theorem few_f (l : List PI) (r : List RG) (h : List Int) : cohousinglaw29_few.f l r h = some (decide (l.length ≤ 20 ∧ r.length ≤ 20 ∧ h.length ≤ 20)) := by
 unfold cohousinglaw29_few.f
 by_cases a : l.length ≤ 20
 ·by_cases b : r.length ≤ 20
  ·rw [if_pos (by omega), if_pos (by omega)]
   congr 1
   exact decide_eq_decide.2 (by omega)
  ·rw [if_pos (by omega), if_neg (by omega), decide_eq_false (fun h => b h.2.1)]
 ·rw [if_neg (by omega), decide_eq_false (fun h => a h.1)]
theorem gB_f {l : List PI} {r : List RG} (hl : l.length ≤ 200) (hr : r.length ≤ 200) : flow_Bounds.f l r = some (boundsR l r) := by unfold flow_Bounds.f; rw [if_pos ⟨by omega, by omega⟩]
theorem gN_f {c : Int} {l : List PI} {r : List RG} {h : List Int} (hl : l.length ≤ 200) (hr : r.length ≤ 200) : charges_Network.f c l r h = some (networkC c l r h) := by unfold charges_Network.f; rw [if_pos ⟨by omega, by omega⟩]
section
variable {c : Int} {l : List PI} {known : List RG} {homes : List Int} {q : List CH × Int × Int} {d : List IV} {m : Nat} {p : List CH × Int}
def lf (l : List PI) (i : Nat) : Nat := (leavesN l l.length).getD i 0
theorem lf_rd (l : List PI) {i : Nat} (h : i < (leavesN l l.length).length) : rd ((leavesN l l.length).map Int.ofNat) (i : Int) = (lf l i : Int) := by
 rw [rd_ofNat _ _ h]
 simp [lf, List.getD_eq_getElem?_getD, h]
theorem lf_lt (l : List PI) {i : Nat} (h : i < (leavesN l l.length).length) : lf l i < l.length := by
 have : lf l i ∈ leavesN l l.length := by simp [lf, List.getD_eq_getElem?_getD, h]
 exact (leavesN_mem.1 this).1
end
end Go.Proofs.Ytbgchacafglcpaa.P
end
section
namespace Go.Proofs.Ytbgchacafglcpaa.P
open Go.RowKit Go.Proofs.YtbgchacafglcpaaW.PrintWords Go.Proofs.YtbgchacafglcpaaW.PrintLast Go.Proofs.YtbgchacafglcpaaW.PrintMore Go.Proofs.YtbgchacafglcpaaH Go.Proofs.FlowTree
theorem cost_f (c : Int) : cohousingref29_cost.f c = some (decide (0 ≤ c ∧ c ≤ 1000000000)) := by
 unfold cohousingref29_cost.f
 by_cases h : c ≥ 0
 ·rw [if_pos h]
  congr 1
  exact decide_eq_decide.2 (by omega)
 ·rw [if_neg h, decide_eq_false (by omega)]
theorem rd_drop (hs : List Int) (i : Nat) (hi : i < hs.length) : hs.drop i = rd hs (i : Int) :: hs.drop (i + 1) := by
 rw [List.drop_eq_getElem_cons hi]
 congr 1
 simp [rd, List.getD_eq_getElem?_getD, hi]
theorem qq_drop (l : List RGE) (i : Nat) (hi : i < l.length) : l.drop i = qq l i :: l.drop (i + 1) := by
 rw [List.drop_eq_getElem_cons hi]
 congr 1
 simp [qq, rd_T38, List.getD_eq_getElem?_getD, hi]
theorem qq_take (l : List RGE) (i : Nat) (hi : i < l.length) : l.take (i + 1) = l.take i ++ [qq l i] := by
 have e : qq l i = l[i] := by simp [qq, rd_T38, List.getD_eq_getElem?_getD, hi]
 rw [e, List.take_succ_eq_append_getElem hi]
theorem homes29_l0 (hs : List Int) (hn : hs.length ≤ 140737488355328) : ∀ d i : Nat, i + d = hs.length → ∀ last : Int, 0 ≤ last → (i = 0 → last = 0) → (0 < i → last = rd hs ((i : Int) - 1)) →
  Ev (fun k => cohousingref29_Homes.l0 k hs (i : Int)) (homesB last (hs.drop i)) := by
 intro d
 induction d with
 | zero =>
  intro i hi last _ _ _
  have h1 : ¬ ((i : Int) < (hs.length : Int)) := by omega
  rw [List.drop_of_length_le (by omega)]
  refine Ev.step ?_
  simp only [cohousingref29_Homes.l0, h1, if_false]
  exact Ev.pure _
 | succ d ih =>
  intro i hi last h0 hz hp
  have hil : i < hs.length := by omega
  have h1 : ((i : Int) < (hs.length : Int)) := by omega
  have h2 : (0 : Int) ≤ (i : Int) := by omega
  have hw := wrap_nat (show i ≤ 140737488355328 by omega)
  have hb : homesB last (hs.drop i) = if rd hs (i : Int) ≤ last ∨ rd hs (i : Int) > 64 then false else homesB (rd hs (i : Int)) (hs.drop (i + 1)) := by
   rw [rd_drop hs i hil]; rfl
  rw [hb]
  refine Ev.step ?_
  simp only [cohousingref29_Homes.l0, h1, h2, if_true]
  by_cases c1 : rd hs (i : Int) < 1
  ·rw [if_pos (.inl (by omega))]
   simp only [c1, if_true]
   exact Ev.pure _
  by_cases c2 : rd hs (i : Int) > 64
  ·rw [if_pos (.inr c2)]
   simp only [c1, if_false, c2, if_true]
   exact Ev.pure _
  simp only [c1, c2, if_false]
  have hrec := ih (i + 1) (by omega) (rd hs (i : Int)) (by omega) (fun h => absurd h (by omega)) (fun _ => by congr 1; omega)
  by_cases c3 : (i : Int) > 0
  ·have w1 : wrap64 ((i : Int) - 1) = (i : Int) - 1 := wrap_id' (by omega) (by omega)
   have c4 : (0 : Int) ≤ (i : Int) - 1 := by omega
   have c5 : (i : Int) - 1 < (hs.length : Int) := by omega
   simp only [c3, if_true, w1, c4, c5]
   rw [hp (by omega)]
   by_cases c6 : rd hs (i : Int) ≤ rd hs ((i : Int) - 1)
   ·rw [if_pos (.inl c6)]
    simp only [c6, if_true]
    exact Ev.pure _
   ·rw [if_neg (show ¬ (rd hs (i : Int) ≤ rd hs ((i : Int) - 1) ∨ False) by rw [or_false]; exact c6)]
    simp only [c6, if_false, hw]
    exact hrec
  ·have := hz (by omega)
   rw [if_neg (show ¬ (rd hs (i : Int) ≤ last ∨ False) by rw [or_false]; omega)]
   simp only [c3, if_false, hw]
   exact hrec
theorem homes29 (hs : List Int) (hn : hs.length ≤ 140737488355328) (n : Int) : Ev (fun k => cohousingref29_Homes.f k hs n) (decide ((hs.length : Int) = n) && homesB 0 hs) := by
 unfold cohousingref29_Homes.f
 by_cases h : (hs.length : Int) = n
 ·simp only [h, if_true, decide_true, Bool.true_and]
  have := homes29_l0 hs hn hs.length 0 (by omega) 0 (by omega) (fun _ => rfl) (fun h => absurd h (by omega))
  exact this
 ·simp only [h, if_false, decide_false, Bool.false_and]
  exact Ev.pure _
theorem parts29_l0 (t : Int) (l : List RGE) (hn : l.length ≤ 200) : ∀ d i : Nat, i + d = l.length → Ev (fun k => cohousingref29_Parts.l0 k t l (i : Int)) (!((l.drop i).any (outR t))) := by
 intro d
 induction d with
 | zero =>
  intro i hi
  have h1 : ¬ ((i : Int) < (l.length : Int)) := by omega
  rw [List.drop_of_length_le (by omega)]
  refine Ev.step ?_
  simp only [cohousingref29_Parts.l0, h1, if_false]
  exact Ev.pure _
 | succ d ih =>
  intro i hi
  have hil : i < l.length := by omega
  have h1 : ((i : Int) < (l.length : Int)) := by omega
  have h2 : (0 : Int) ≤ (i : Int) := by omega
  have hw := wrap_nat (show i ≤ 140737488355328 by omega)
  have hrec := ih (i + 1) (by omega)
  have hb : (l.drop i).any (outR t) = (outR t (qq l i) || (l.drop (i + 1)).any (outR t)) := by rw [qq_drop l i hil]; rfl
  rw [hb]
  have q0 : rd_T38 l (i : Int) = qq l i := rfl
  refine Ev.step ?_
  simp only [cohousingref29_Parts.l0, h1, h2, if_true, q0]
  cases ho : outR t (qq l i) with
  | false =>
   have := (outR_iff t (qq l i)).1 ho
   have c1 : ¬ ((qq l i).f0 < 0) := by omega
   have c2 : ¬ ((qq l i).f0 > (qq l i).f1) := by omega
   have c3 : ¬ ((qq l i).f1 > t) := by omega
   simp only [c1, c2, c3, if_false, hw, Bool.false_or]
   exact hrec
  | true =>
   have hno : ¬ (0 ≤ (qq l i).f0 ∧ (qq l i).f0 ≤ (qq l i).f1 ∧ (qq l i).f1 ≤ t) := fun h => by rw [(outR_iff t (qq l i)).2 h] at ho; cases ho
   simp only [Bool.true_or, Bool.not_true]
   by_cases c1 : (qq l i).f0 < 0
   ·simp only [c1, if_true]; exact Ev.pure _
   by_cases c2 : (qq l i).f0 > (qq l i).f1
   ·simp only [c1, if_false, c2, if_true]; exact Ev.pure _
   by_cases c3 : (qq l i).f1 > t
   ·simp only [c1, c2, if_false, c3, if_true]; exact Ev.pure _
   exact absurd (by omega) hno
theorem parts29 (t : Int) (l : List RGE) : Ev (fun k => cohousingref29_Parts.f k t l) (decide (1 ≤ t ∧ t ≤ 1000000000 ∧ l.length ≤ 200) && !(l.any (outR t))) := by
 have hout : Ev (fun k => cohousingref29_Parts.j0 k t l true) false := by
  refine Ev.step ?_
  simp only [cohousingref29_Parts.j0, if_true]
  exact Ev.pure _
 unfold cohousingref29_Parts.f
 by_cases c1 : t < 1
 ·rw [decide_eq_false (show ¬ (1 ≤ t ∧ t ≤ 1000000000 ∧ l.length ≤ 200) by omega)]
  simp only [c1, if_true, Bool.false_and]
  exact hout
 by_cases c2 : t > 1000000000
 ·rw [decide_eq_false (show ¬ (1 ≤ t ∧ t ≤ 1000000000 ∧ l.length ≤ 200) by omega)]
  simp only [c1, if_false, c2, if_true, Bool.false_and]
  exact hout
 simp only [c1, c2, if_false]
 by_cases c3 : (l.length : Int) > 200
 ·rw [decide_eq_false (show ¬ (1 ≤ t ∧ t ≤ 1000000000 ∧ l.length ≤ 200) by omega), decide_eq_true c3]
  exact hout
 rw [decide_eq_true (show (1 ≤ t ∧ t ≤ 1000000000 ∧ l.length ≤ 200) by omega), decide_eq_false c3]
 refine Ev.step ?_
 simp only [cohousingref29_Parts.j0, Bool.false_eq_true, if_false, Bool.true_and]
 exact parts29_l0 t l (by omega) l.length 0 (by omega)
section
variable {c t : Int} {l : List RGE}
theorem parts_cost : (decide (0 ≤ c ∧ c ≤ 1000000000) && (decide (1 ≤ t ∧ t ≤ 1000000000 ∧ l.length ≤ 200) && !(l.any (outR t)))) = true ↔ PartsOk c t l := by
 have hp := parts_iff c t l
 rw [Bool.and_eq_true, Bool.and_eq_true, decide_eq_true_iff, decide_eq_true_iff, Bool.not_eq_true']
 constructor
 ·rintro ⟨h1, h2, h3⟩
  refine Classical.byContradiction fun hn => ?_
  rcases hp.2 hn with h | h | h | h | h | h
  ·omega
  ·omega
  ·omega
  ·omega
  ·omega
  ·rw [h] at h3; cases h3
 ·intro h
  refine ⟨⟨h.1, h.2.1⟩, ⟨h.2.2.1, h.2.2.2.1, h.2.2.2.2.1⟩, ?_⟩
  cases ha : l.any (outR t) with
  | false => rfl
  | true => exact absurd h (hp.1 (.inr (.inr (.inr (.inr (.inr ha))))))
theorem bounds29_l0 (h : PartsOk c t l) : ∀ d i : Nat, i + d = l.length → Ev (fun k => cohousingref29_Bounds.l0 k c t l ((l.take i).map (chgR c t)) (i : Int)) (l.map (chgR c t), 0) := by
 have hn := h.2.2.2.2.1
 intro d
 induction d with
 | zero =>
  intro i hi
  have h1 : ¬ ((i : Int) < (l.length : Int)) := by omega
  rw [List.take_of_length_le (by omega)]
  refine Ev.step ?_
  simp only [cohousingref29_Bounds.l0, h1, if_false]
  exact Ev.pure _
 | succ d ih =>
  intro i hi
  have hil : i < l.length := by omega
  have h1 : ((i : Int) < (l.length : Int)) := by omega
  have h2 : (0 : Int) ≤ (i : Int) := by omega
  have hw := wrap_nat (show i ≤ 140737488355328 by omega)
  have hrec := ih (i + 1) (by omega)
  rw [qq_take l i hil, List.map_append] at hrec
  have hr := h.2.2.2.2.2 i hil
  have h3 : ((l.take i).map (chgR c t)).length < 8796093022208 := by rw [List.length_map, List.length_take]; omega
  have q0 : rd_T38 l (i : Int) = qq l i := rfl
  refine Ev.step ?_
  simp only [cohousingref29_Bounds.l0, h1, h2, if_true, q0]
  refine Ev.bnd (right_ref h.1 h.2.1 h.2.2.1 h.2.2.2.1 (by omega) (by omega)) ?_
  refine Ev.bnd (right_ref h.1 h.2.1 h.2.2.1 h.2.2.2.1 (by omega) (by omega)) ?_
  simp only [h3, if_true, hw]
  exact hrec
theorem bounds29 (c t : Int) (l : List RGE) : Ev (fun k => cohousingref29_Bounds.f k c t l) (boundsC c t l) := by
 have hout : Ev (fun k => cohousingref29_Bounds.j0 k c t l true) ([], 1) := by
  refine Ev.step ?_
  simp only [cohousingref29_Bounds.j0, if_true]
  exact Ev.pure _
 unfold cohousingref29_Bounds.f
 simp only [cost_f, Option.bind_some]
 refine Ev.bnd (parts29 t l) ?_
 have hpc := parts_cost (c := c) (t := t) (l := l)
 by_cases h : PartsOk c t l
 ·have h' := hpc.2 h
  rw [Bool.and_eq_true] at h'
  rw [boundsC_ok h]
  simp only [h'.1, h'.2, if_true, Bool.not_true]
  refine Ev.step ?_
  simp only [cohousingref29_Bounds.j0, Bool.false_eq_true, if_false]
  exact bounds29_l0 h l.length 0 (by omega)
 ·rw [boundsC_no h]
  cases h1 : decide (0 ≤ c ∧ c ≤ 1000000000) with
  | false =>
   simp only [Bool.false_eq_true, if_false]
   exact hout
  | true =>
   cases h2 : (decide (1 ≤ t ∧ t ≤ 1000000000 ∧ l.length ≤ 200) && !(l.any (outR t))) with
   | true => exact absurd (hpc.1 (by rw [h1, h2]; rfl)) h
   | false =>
    simp only [if_true, Bool.not_false]
    exact hout
def lowK (c t : Int) (homes : List Int) (l : List RGE) (k : Nat) : List CH × Int := lowAll c (downTo l.length k) (billsN homes (l.map (chgR c t)) l.length l.length, sumN (l.map (chgR c t)) l.length)
theorem lowK_succ (c t : Int) (homes : List Int) (l : List RGE) (k : Nat) : lowK c t homes l (k + 1) = lowStep c (lowK c t homes l k) (l.length - 1 - k) := by
 unfold lowK lowAll
 rw [downTo_succ, List.foldl_append]
 rfl
theorem share29_l1 (homes : List Int) (h : PartsOk c t l) : ∀ d k : Nat, k + d = l.length →
  Ev (fun m => cohousingref29_Share.l1 m c (lowK c t homes l k).2 (lowK c t homes l k).1 ((l.length : Int) - 1 - (k : Int))) ((lowK c t homes l l.length).1, wrap64 (c - (lowK c t homes l l.length).2), 0) := by
 have hn := h.2.2.2.2.1
 have hc0 := h.1
 have hc1 := h.2.1
 intro d
 induction d with
 | zero =>
  intro k hk
  have e : k = l.length := by omega
  subst e
  have h1 : ¬ ((l.length : Int) - 1 - (l.length : Int) ≥ 0) := by omega
  refine Ev.step ?_
  simp only [cohousingref29_Share.l1, h1, if_false]
  exact Ev.pure _
 | succ d ih =>
  intro k hk
  have hL : LowAt homes c t l k (lowK c t homes l k) := low_all homes h k (by omega)
  have hrec := ih (k + 1) (by omega)
  rw [lowK_succ] at hrec
  generalize hp : lowK c t homes l k = p at hL hrec ⊢
  obtain ⟨i, hi⟩ : ∃ i, i = l.length - 1 - k := ⟨_, rfl⟩
  rw [← hi] at hrec
  have ei : (l.length : Int) - 1 - (k : Int) = (i : Int) := by omega
  have hil : i < l.length := by omega
  have hf := hL.form i hil
  have hb := b_bd h i hil
  have hbd := hL.bd
  have hge := hf.ge
  have hle := hf.le
  have h1 : ((i : Int) ≥ 0) := by omega
  have h2 : ((i : Int) < (p.1.length : Int)) := by rw [hL.len]; omega
  have hw : wrap64 ((i : Int) - 1) = (l.length : Int) - 1 - ((k + 1 : Nat) : Int) := by rw [wrap_id' (by omega) (by omega)]; omega
  rw [ei]
  obtain ⟨M, hM⟩ : ∃ M, M = mn (wrap64 (p.2 - c)) (wrap64 ((cc p.1 i).f1 - (cc p.1 i).f2.f0)) := ⟨_, rfl⟩
  have q0 : rd_T43 p.1 (i : Int) = cc p.1 i := rfl
  have h0 : (0 : Int) ≤ (i : Int) := by omega
  refine Ev.step ?_
  simp only [cohousingref29_Share.l1, h0, h1, h2, if_true, q0, ← hM, Int.toNat_natCast, hw]
  have es : lowStep c p i = (p.1.set i ⟨(cc p.1 i).f0, wrap64 ((cc p.1 i).f1 - mx 0 M), (cc p.1 i).f2, (cc p.1 i).f3⟩, wrap64 (p.2 - mx 0 M)) := by
   unfold lowStep lowBy
   rw [hM]
  rw [es] at hrec
  by_cases c1 : M > 0
  ·have em : mx 0 M = M := by unfold mx; rw [if_pos (by omega)]
   rw [em] at hrec
   simp only [c1, if_true]
   exact hrec
  ·have em : mx 0 M = 0 := by unfold mx; rw [if_neg (by omega)]
   rw [em, Int.sub_zero, Int.sub_zero, wrap_id' (n := p.2) (by omega) (by omega), wrap_id' (n := (cc p.1 i).f1) (by omega) (by omega)] at hrec
   have e2 : p.1.set i ⟨(cc p.1 i).f0, (cc p.1 i).f1, (cc p.1 i).f2, (cc p.1 i).f3⟩ = p.1 := by
    refine cc_ext (by rw [List.length_set]) (fun j hj => ?_)
    rw [cc_set _ _ _ _ (by rw [hL.len]; exact hil)]
    by_cases e : i = j
    ·subst e; rw [if_pos rfl]
    ·rw [if_neg e]
   rw [e2] at hrec
   simp only [c1, if_false]
   exact hrec
theorem share29_l0 (homes : List Int) (h : PartsOk c t l) (hh : homes.length = l.length) : ∀ d i : Nat, i + d = l.length →
  Ev (fun k => cohousingref29_Share.l0 k c t homes l (l.map (chgR c t)) (leastN l i) (sumN (l.map (chgR c t)) i) ((List.range i).map (fun j : Nat => billOf (rd homes (j : Int)) (qq (l.map (chgR c t)) j))) (i : Int))
   (if t < leastN l l.length then ([], 0, 30) else ((lowK c t homes l l.length).1, wrap64 (c - (lowK c t homes l l.length).2), 0)) := by
 have hn := h.2.2.2.2.1
 intro d
 induction d with
 | zero =>
  intro i hi
  have e : i = l.length := by omega
  subst e
  have h1 : ¬ ((l.length : Int) < (l.length : Int)) := by omega
  have eb : (List.range l.length).map (fun j : Nat => billOf (rd homes (j : Int)) (qq (l.map (chgR c t)) j)) = billsN homes (l.map (chgR c t)) l.length l.length := by
   refine cc_ext (by rw [List.length_map, List.length_range, billsN_len]) (fun j hj => ?_)
   rw [List.length_map, List.length_range] at hj
   rw [bills_at homes _ _ _ (Nat.le_refl _) j hj, if_pos hj]
   simp [cc, rd_T43, List.getD_eq_getElem?_getD, hj]
  have hw : wrap64 ((l.length : Int) - 1) = (l.length : Int) - 1 - ((0 : Nat) : Int) := by rw [wrap_id' (by omega) (by omega)]; omega
  refine Ev.step ?_
  simp only [cohousingref29_Share.l0, h1, if_false]
  by_cases c1 : t < leastN l l.length
  ·have c2 : leastN l l.length > t := c1
   rw [if_pos c1]
   simp only [c2, if_true]
   exact Ev.pure _
  ·have c2 : ¬ (leastN l l.length > t) := c1
   rw [if_neg c1]
   simp only [c2, if_false, List.length_map, List.length_range, hw]
   rw [eb]
   exact share29_l1 homes h l.length 0 (by omega)
 | succ d ih =>
  intro i hi
  have hil : i < l.length := by omega
  have h1 : ((i : Int) < (l.length : Int)) := by omega
  have h2 : (0 : Int) ≤ (i : Int) := by omega
  have h3 : ((i : Int) < ((l.map (chgR c t)).length : Int)) := by rw [List.length_map]; omega
  have h4 : ((i : Int) < (homes.length : Int)) := by omega
  have h5 : ((List.range i).map (fun j : Nat => billOf (rd homes (j : Int)) (qq (l.map (chgR c t)) j))).length < 3518437208883 := by rw [List.length_map, List.length_range]; omega
  have hw := wrap_nat (show i ≤ 140737488355328 by omega)
  have hrec := ih (i + 1) (by omega)
  have e1 : leastN l (i + 1) = wrap64 (leastN l i + (rd_T38 l (i : Int)).f0) := foldl_rng _ _ _
  have e2 : sumN (l.map (chgR c t)) (i + 1) = wrap64 (sumN (l.map (chgR c t)) i + wrap64 (Int.tdiv (wrap64 ((rd_T38 (l.map (chgR c t)) (i : Int)).f0 + (rd_T38 (l.map (chgR c t)) (i : Int)).f1)) 2)) := foldl_rng _ _ _
  rw [e1, e2, List.range_succ, List.map_append] at hrec
  refine Ev.step ?_
  simp only [cohousingref29_Share.l0, h1, h2, h3, h4, h5, if_true, hw]
  exact hrec
theorem share29 (c t : Int) (homes : List Int) (l : List RGE) (hn : homes.length ≤ 140737488355328) : Ev (fun k => cohousingref29_Share.f k c t homes l) (shareC c t homes l) := by
 unfold cohousingref29_Share.f
 refine Ev.bnd (bounds29 c t l) ?_
 unfold shareC
 by_cases h : PartsOk c t l
 case neg =>
  rw [boundsC_no h]
  have e : ((1 : Int) = 0) = False := by simp
  simp only [e, if_false]
  exact Ev.pure _
 rw [boundsC_ok h]
 simp only [if_true]
 refine Ev.bnd (homes29 homes hn _) ?_
 by_cases hl : homes.length = l.length
 case neg =>
  rw [if_pos (.inl hl), decide_eq_false (by omega)]
  simp only [Bool.false_and, Bool.false_eq_true, if_false]
  exact Ev.pure _
 rw [decide_eq_true (by omega)]
 cases hB : homesB 0 homes with
 | false =>
  rw [if_pos (.inr rfl)]
  simp only [Bool.and_false, Bool.false_eq_true, if_false]
  exact Ev.pure _
 | true =>
  rw [if_neg (by rintro (h | h); exact h hl; cases h)]
  simp only [Bool.and_self, if_true]
  exact share29_l0 homes h hl l.length 0 (by omega)
theorem shareC_len (c t : Int) (homes : List Int) (l : List RGE) : (shareC c t homes l).1.length ≤ l.length := by
 have h := shareC_is c t homes l
 generalize shareC c t homes l = q at h
 cases h with
 | arg _ => exact Nat.zero_le _
 | flow _ _ _ _ => exact Nat.zero_le _
 | ok p _ _ _ _ hp _ => exact Nat.le_of_eq hp.len
theorem networkC_len (c : Int) (l : List PI) (known : List RG) (homes : List Int) : (networkC c l known homes).1.length ≤ l.length := by
 unfold networkC
 split
 ·split
  ·exact Nat.zero_le _
  ·split
   ·exact Nat.zero_le _
   ·exact Nat.le_trans (shareC_len _ _ _ _) (partsN_len _ _ _)
 ·exact Nat.zero_le _
theorem same29_self (a : List CH) (hn : a.length ≤ 140737488355328) : Ev (fun k => cohousingref29_Same.f k a a) true := by
 have hl : ∀ d i : Nat, i + d = a.length → Ev (fun k => cohousingref29_Same.l0 k a a (i : Int)) true := by
  intro d
  induction d with
  | zero =>
   intro i hi
   have h1 : ¬ ((i : Int) < (a.length : Int)) := by omega
   refine Ev.step ?_
   simp only [cohousingref29_Same.l0, h1, if_false]
   exact Ev.pure _
  | succ d ih =>
   intro i hi
   have h1 : ((i : Int) < (a.length : Int)) := by omega
   have h2 : (0 : Int) ≤ (i : Int) := by omega
   have hw := wrap_nat (show i ≤ 140737488355328 by omega)
   refine Ev.step ?_
   simp only [cohousingref29_Same.l0, h1, h2, if_true, beq_self_eq_true, Bool.not_true, Bool.or_self, Bool.false_eq_true, if_false, hw]
   exact ih (i + 1) (by omega)
 unfold cohousingref29_Same.f
 simp only [if_true]
 exact hl a.length 0 (by omega)
theorem net29_l0 (l : List PI) (homes : List Int) (bs : List RGE) (m : Nat) (hbl : bs.length = l.length) (hm : m < l.length) (hn : l.length ≤ 200) (hh : homes.length ≤ 140737488355328) : ∀ d i : Nat, i + d = (leavesN l l.length).length →
  Ev (fun k => cohousingref29_Network.l0 k c homes bs ((leavesN l l.length).map Int.ofNat) (m : Int) (((leavesN l l.length).take i).map (qq bs)) (i : Int)) (shareC c (qq bs m).f0 homes ((leavesN l l.length).map (qq bs))) := by
 have hL := leavesN_len l l.length
 have h6 : (0 : Int) ≤ (m : Int) := by omega
 have h7 : (m : Int) < (bs.length : Int) := by omega
 intro d
 induction d with
 | zero =>
  intro i hi
  have h1 : ¬ ((i : Int) < (((leavesN l l.length).map Int.ofNat).length : Int)) := by rw [List.length_map]; omega
  rw [List.take_of_length_le (by omega)]
  refine Ev.step ?_
  simp only [cohousingref29_Network.l0, h1, if_false, h6, h7, if_true]
  refine Ev.bnd (share29 c (qq bs m).f0 homes _ hh) ?_
  exact Ev.pure _
 | succ d ih =>
  intro i hi
  have hil : i < (leavesN l l.length).length := by omega
  have h1 : ((i : Int) < (((leavesN l l.length).map Int.ofNat).length : Int)) := by rw [List.length_map]; omega
  have h2 : (0 : Int) ≤ (i : Int) := by omega
  have hlt := lf_lt l hil
  have h3 : (0 : Int) ≤ (lf l i : Int) := by omega
  have h4 : (lf l i : Int) < (bs.length : Int) := by omega
  have h5 : (((leavesN l l.length).take i).map (qq bs)).length < 8796093022208 := by rw [List.length_map, List.length_take]; omega
  have hw := wrap_nat (show i ≤ 140737488355328 by omega)
  have hrec := ih (i + 1) (by omega)
  have et : (leavesN l l.length).take (i + 1) = (leavesN l l.length).take i ++ [lf l i] := by
   have e : lf l i = (leavesN l l.length)[i] := by simp [lf, List.getD_eq_getElem?_getD, hil]
   rw [e, List.take_succ_eq_append_getElem hil]
  rw [et, List.map_append] at hrec
  refine Ev.step ?_
  simp only [cohousingref29_Network.l0, h1, h2, if_true, lf_rd l hil, h3, h4, h5, hw]
  exact hrec
theorem network29 (c : Int) (l : List PI) (known : List RG) (homes : List Int) (hl : l.length ≤ 20) (hk : known.length ≤ 20) (hh : homes.length ≤ 20) : Ev (fun k => cohousingref29_Network.f k c l known homes) (networkC c l known homes) := by
 unfold cohousingref29_Network.f
 refine Ev.bnd (ref_Bounds l known (by omega) (by omega)) ?_
 by_cases hz : (boundsR l known).2 = 0
 case neg =>
  have e : networkC c l known homes = ([], 0, (boundsR l known).2) := by unfold networkC; rw [if_neg hz]
  rw [e]
  simp only [hz, if_false]
  exact Ev.pure _
 have hb := boundsR_is l known
 generalize hq : boundsR l known = q at hb hz
 cases hb with
 | arg _ => exact absurd hz (by decide)
 | flow _ _ => exact absurd hz (by decide)
 | ok d hg hd =>
  have hn := hg.n
  have e1 : networkC c l known homes = (if c < 0 ∨ 1000000000 < c ∨ rootsN l l.length ≠ 1 ∨ homes.length ≠ (partsN l (d.map toR) l.length).length ∨ homesB 0 homes = false then ([], 0, 1)
    else if (totN l (d.map toR) l.length).f0 ≠ (totN l (d.map toR) l.length).f1 ∨ (totN l (d.map toR) l.length).f0 = 0 then ([], 0, 3)
    else shareC c (totN l (d.map toR) l.length).f0 homes (partsN l (d.map toR) l.length)) := by unfold networkC; rw [hq, if_pos rfl]
  rw [e1, parts_at hg.ok _ _ (Nat.le_refl _), List.length_map]
  obtain ⟨r, hr, hR⟩ := root_ev l (by omega)
  have hout : ∀ r : Int, Ev (fun k => cohousingref29_Network.j0 k c homes (d.map toR) ((leavesN l l.length).map Int.ofNat) r true) ([], 0, 1) := fun r => by
   refine Ev.step ?_
   simp only [cohousingref29_Network.j0, if_true]
   exact Ev.pure _
  have hout1 : ∀ r : Int, Ev (fun k => cohousingref29_Network.j1 k c homes (d.map toR) ((leavesN l l.length).map Int.ofNat) r true) ([], 0, 3) := fun r => by
   refine Ev.step ?_
   simp only [cohousingref29_Network.j1, if_true]
   exact Ev.pure _
  simp only [if_true]
  refine Ev.bnd (leaves_ev l hn) ?_
  refine Ev.bnd hr ?_
  simp only [cost_f, Option.bind_some]
  refine Ev.bnd (homes29 homes (by omega) _) ?_
  by_cases hc : 0 ≤ c ∧ c ≤ 1000000000
  case neg =>
   rw [if_pos (by omega), decide_eq_false hc]
   simp only [Bool.false_eq_true, if_false]
   exact hout r
  rw [decide_eq_true hc]
  simp only [if_true, List.length_map]
  by_cases hlen : homes.length = (leavesN l l.length).length
  case neg =>
   rw [if_pos (.inr (.inr (.inr (.inl hlen)))), decide_eq_false (by omega)]
   simp only [Bool.false_and, Bool.false_eq_true, if_false]
   exact hout r
  rw [decide_eq_true (show (homes.length : Int) = ((leavesN l l.length).length : Int) by omega)]
  cases hB : homesB 0 homes with
  | false =>
   rw [if_pos (.inr (.inr (.inr (.inr rfl))))]
   simp only [Bool.and_false, Bool.false_eq_true, if_false]
   exact hout r
  | true =>
   simp only [Bool.and_self, if_true]
   rcases hR with ⟨hne, rfl⟩ | ⟨hone, m, hm, rfl, _, htot⟩
   ·rw [if_pos (.inr (.inr (.inl hne))), decide_eq_true (show (-1 : Int) < 0 by omega)]
    exact hout (-1)
   rw [if_neg (by rintro (h | h | h | h | h); omega; omega; exact h hone; exact h hlen; cases h), decide_eq_false (show ¬ ((m : Int) < 0) by omega), htot (d.map toR)]
   have hdl : (d.map toR).length = l.length := by rw [List.length_map]; exact hd.len
   have h1 : (0 : Int) ≤ (m : Int) := by omega
   have h2 : (m : Int) < ((d.map toR).length : Int) := by omega
   have q0 : rd_T38 (d.map toR) (m : Int) = qq (d.map toR) m := rfl
   refine Ev.step ?_
   simp only [cohousingref29_Network.j0, Bool.false_eq_true, if_false, h1, h2, if_true, q0]
   by_cases c1 : (qq (d.map toR) m).f0 = (qq (d.map toR) m).f1
   case neg =>
    rw [if_pos (.inl c1)]
    simp only [c1, if_false]
    exact hout1 m
   simp only [c1, if_true]
   by_cases c2 : (qq (d.map toR) m).f1 = 0
   ·rw [if_pos (.inr c2), c2]
    exact hout1 m
   rw [if_neg (by rintro (h | h); exact h rfl; exact c2 h), show ((qq (d.map toR) m).f1 == 0) = false from beq_eq_false_iff_ne.2 c2]
   refine Ev.step ?_
   simp only [cohousingref29_Network.j1, Bool.false_eq_true, if_false]
   have := net29_l0 (c := c) l homes (d.map toR) m hdl hm hn (by omega) (leavesN l l.length).length 0 (by omega)
   rw [c1] at this
   exact this
end
theorem matches29_ (c t : Int) (homes : List Int) (l : List RGE) (pipes : List PI) (known : List RG) : Ev (fun k => cohousinglaw29_ChargesMatchesReference.f k c t homes l pipes known) true := by
 have hout : Ev (fun k => cohousinglaw29_ChargesMatchesReference.j0 k c t homes l pipes known true true) true := by
  refine Ev.step ?_
  simp only [cohousinglaw29_ChargesMatchesReference.j0, if_true]
  exact Ev.pure _
 unfold cohousinglaw29_ChargesMatchesReference.f
 refine Ev.bnd head_ev ?_
 simp only [few_f, Option.bind_some]
 by_cases hf : pipes.length ≤ 20 ∧ known.length ≤ 20 ∧ homes.length ≤ 20
 case neg =>
  rw [decide_eq_false hf]
  simp only [Bool.false_eq_true, if_false]
  exact hout
 rw [decide_eq_true hf]
 simp only [if_true]
 by_cases hx : (l.length : Int) > 20
 ·rw [decide_eq_true hx]
  exact hout
 rw [decide_eq_false hx]
 have hb1 : (boundsC c t l).1.length ≤ 140737488355328 := by
  rcases boundsC_two c t l with h | h
  ·rw [h]; exact Nat.zero_le _
  ·rw [h.1, List.length_map]; omega
 have hs1 := shareC_len c t homes l
 have hn1 := networkC_len c pipes known homes
 refine Ev.step ?_
 simp only [cohousinglaw29_ChargesMatchesReference.j0, Bool.false_eq_true, if_false, charges_Bounds.f, Option.bind_some, if_true]
 refine Ev.bnd (bounds29 c t l) ?_
 have hsm := same_f (boundsC c t l).1 (boundsC c t l).1 hb1
 simp only [eq_self, decide_true] at hsm
 refine Ev.bnd hsm ?_
 simp only [if_true, beq_self_eq_true]
 refine Ev.step ?_
 simp only [cohousinglaw29_ChargesMatchesReference.j1, if_true, charges_Share.f, Option.bind_some, gN_f (c := c) (h := homes) (show pipes.length ≤ 200 by omega) (show known.length ≤ 200 by omega)]
 refine Ev.bnd (share29 c t homes l (by omega)) ?_
 refine Ev.bnd (same29_self _ (by omega)) ?_
 simp only [if_true]
 refine Ev.bnd (network29 c pipes known homes hf.1 hf.2.1 hf.2.2) ?_
 refine Ev.bnd (same29_self _ (by omega)) ?_
 simp only [if_true, beq_self_eq_true]
 exact Ev.pure _
end Go.Proofs.Ytbgchacafglcpaa.P
end
