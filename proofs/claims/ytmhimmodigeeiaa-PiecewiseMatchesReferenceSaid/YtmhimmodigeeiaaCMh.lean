/- Part 8 of the base that the seat's proofs share: words, walks and plain laws. -/
import Derived.Test.YtmhimmodigeeiaaCMg
set_option linter.unusedVariables false
set_option linter.unusedSimpArgs false
section
namespace Go.Proofs.Ytmhimmodigeeiaa.P
open Go.RowKit Go.Proofs.YtmhimmodigeeiaaW.PrintWords Go.Proofs.YtmhimmodigeeiaaW.PrintLast Go.Proofs.YtmhimmodigeeiaaW.PrintMore
attribute [local go_sem] max2_int min2_int max_two min_two max_three min_three max_four min_four
set_option linter.unusedVariables false
set_option linter.unusedSimpArgs false
set_option maxHeartbeats 8000000
set_option maxRecDepth 100000
section
mutual
def cohousingref05_Add.j0 : Nat → List (S51) → List (S51) → Bool → Option ((List (S51)) × Int)
 | 0, _, _, _ => none
 | k + 1, x0, x1, x25 => if x25 = true then (some (([] : List (S51)), 1)) else ((cohousingref05_Starts.f k x0 x1).bind fun t344 => (cohousingref05_Add.l0 k x0 x1 ([] : List (S51)) t344 0))
def cohousingref05_Add.l0 : Nat → List (S51) → List (S51) → List (S51) → List Int → Int → Option ((List (S51)) × Int)
 | 0, _, _, _, _, _ => none
 | k + 1, x0, x1, x8, x9, x10 => if x10 < (x9.length : Int) then (if 0 ≤ x10 then ((cohousingref05_Piece.f k x0 (rd x9 x10)).bind fun bt352 => ((cohousingref05_Piece.f k x1 (rd x9 x10)).bind fun bt358 => ((cohousingref05_Line.f k bt352.1 bt352.2.1 bt352.2.2.1 bt352.2.2.2.1 bt352.2.2.2.2 (rd x9 x10)).bind fun bt364 => ((cohousingref05_Line.f k bt358.1 bt358.2.1 bt358.2.2.1 bt358.2.2.2.1 bt358.2.2.2.2 (rd x9 x10)).bind fun bt366 => ((cohousingref05_Sum.f k bt364.1 bt364.2 bt366.1 bt366.2).bind fun bt368 => ((cohousingref05_Sum.f k bt352.2.2.2.1 bt352.2.2.2.2 bt358.2.2.2.1 bt358.2.2.2.2).bind fun bt370 => (if x8.length < 3518437208883 then (cohousingref05_Add.l0 k x0 x1 (x8 ++ [(⟨rd x9 x10, (⟨bt368.1, bt368.2⟩ : S24), (⟨bt370.1, bt370.2⟩ : S24)⟩ : S51)]) x9 (wrap64 (x10 + 1))) else (none)))))))) else (none)) else ((cohousingref05_result.f k x8).bind fun bt347 => (some (bt347.1, bt347.2)))
end
def cohousingref05_Add.f (k : Nat) (l0 : List (S51)) (l1 : List (S51)) : Option ((List (S51)) × Int) := (cohousingref05_Valid.f k l0).bind fun t342 => ((cohousingref05_Valid.f k l1).bind fun t343 => (if t342 = true then (cohousingref05_Add.j0 k l0 l1 (!t343)) else (cohousingref05_Add.j0 k l0 l1 true)))
def cohousingref05_Add.T13 : Bool × List (List Nat × List Nat) := (true, [([], []), ([], []), ([], []), ([], []), ([2, 3], [2, 3]), ([], []), ([], []), ([5, 6, 4], [5, 6]), ([4, 7, 7], [4, 7]), ([], []), ([9], [9]), ([], []), ([11], [11]), ([10, 12, 8], [10, 12]), ([1, 8, 13], [1, 8, 13]), ([14], [14]), ([0, 15, 13], [0, 15]), ([16, 16, 0, 1, 2, 3, 4, 5, 6, 7, 8, 9, 10, 11, 12, 13, 14, 15, 16], [0, 16])])
def cohousingref05_Add.B13 : List Nat := [0, 0, 0, 0, 12, 0, 0, 124, 252, 0, 512, 0, 2048, 8188, 16382, 32766, 65535, 131071]
theorem cohousingref05_Add.tab13 : rtab .any (opsOf Try.f17 13) = cohousingref05_Add.T13 := by kernel_rfl
theorem cohousingref05_Add.bits13 : waitsOk cohousingref05_Add.T13.2 cohousingref05_Add.B13 = true := by kernel_rfl
theorem cohousingref05_Add.calls (k : Nat) (A0 : Option Addr) (c0 : Nat) (l0 : List (S51)) (A1 : Option Addr) (c1 : Nat) (l1 : List (S51)) (r1 : List (S51)) (r2 : Int) (w : World) (hr0 : Kd.C k51 w A0 l0.length l0) (hc0 : l0.length ≤ c0) (hr1 : Kd.C k51 w A1 l1.length l1) (hc1 : l1.length ≤ c1) (h : cohousingref05_Add.f k l0 l1 = some (r1, r2)) :
  Calls Try.prog 17 #[.slice A0 l0.length c0, .slice A1 l1.length c1] w fun e w' => ∃ v0_ : Value, e = .returned (.tuple #[v0_, .int .i64 r2]) ∧ Kd.R k51 51 w' w.heap.size (fun _ => True) v0_ r1 ∧ Below w.heap.size w w' := by
 have hu51 := Try.underlying51
 have hu24 := Try.underlying24
 have HR0 := mk_ hr0
 have HC0 := mk_ hc0
 clear hr0 hc0
 have HR1 := mk_ hr1
 have HC1 := mk_ hc1
 clear hr1 hc1
 have HB := mk_ (Below.refl w.heap.size w)
 have H : ((cohousingref05_Valid.f k l0).bind fun t342 => ((cohousingref05_Valid.f k l1).bind fun t343 => (if t342 = true then (cohousingref05_Add.j0 k l0 l1 (!t343)) else (cohousingref05_Add.j0 k l0 l1 true)))) = some (r1, r2) := h
 clear h
 replace H := Option.bind_eq_some_iff.mp H
 obtain ⟨t342, A30, H⟩ := H
 replace H : ((cohousingref05_Valid.f k l1).bind fun t343 => (if t342 = true then (cohousingref05_Add.j0 k l0 l1 (!t343)) else (cohousingref05_Add.j0 k l0 l1 true))) = some (r1, r2) := H
 have A3 := mk_ A30
 clear A30
 replace H := Option.bind_eq_some_iff.mp H
 obtain ⟨t343, A40, H⟩ := H
 replace H : (if t342 = true then (cohousingref05_Add.j0 k l0 l1 (!t343)) else (cohousingref05_Add.j0 k l0 l1 true)) = some (r1, r2) := H
 have A4 := mk_ A40
 clear A40
 have HC5 := mk_ H
 clear H
 go_enter Try.func17, Try.ntmps17
 go_upto_region 3 with (first | ((with_reducible refine gate_callee (f := 15) rfl ?_); refine gl_ (some 17) Try.func15 #[.slice A0 l0.length c0] ?_; (with_reducible refine (cohousingref05_Valid.calls k _ _ l0 t342 _ ?side1 ?side2 A3.out).mono ?_); (case side1 => exact cc_ (HR0.out)); (case side2 => exact HC0.out); rintro e w6 ⟨rfl, hb⟩; refine ⟨_, rfl, ?_⟩; replace HB := mk_ (below_step (bb_ HB) hb); (try clear hb)) | ((with_reducible refine gate_callee (f := 15) rfl ?_); refine gl_ (some 19) Try.func15 #[.slice A1 l1.length c1] ?_; (with_reducible refine (cohousingref05_Valid.calls k _ _ l1 t343 _ ?side1 ?side2 A4.out).mono ?_); (case side1 => exact cc_ ((Kd.C_below HR1.out HB.out))); (case side2 => exact HC1.out); rintro e w7 ⟨rfl, hb⟩; refine ⟨_, rfl, ?_⟩; replace HB := mk_ (below_step (bb_ HB) hb); (try clear hb)))
 (try simp only [Act.put, sI_, s0_, sS_])
 go_cut [25] (fun v25 wc => ∃ (kq : Nat) (x25_4 : Bool), v25 = .bool x25_4 ∧ Aside0 (cohousingref05_Add.j0 kq l0 l1 x25_4 = some (r1, r2)) ∧ Aside0 (kq ≤ k) ∧ Aside0 (Below w.heap.size w wc))
 case first =>
  have H := HC5.out
  clear HC5
  by_cases c8 : t342 = true
  ·subst c8
   have H1 : (cohousingref05_Add.j0 k l0 l1 (!t343)) = some (r1, r2) := by rw [if_pos rfl] at H; exact H
   clear H
   have H := H1
   clear H1
   have H' := mk_ H
   clear H
   go_wp2
   go_meet
   case rel => exact ⟨_, (!t343), sd_, H', ⟨by first | omega | exact Nat.le_refl _⟩, ⟨bb_ HB⟩⟩
  replace c8 := Bool.eq_false_iff.mpr c8
  subst c8
  have H1 : (cohousingref05_Add.j0 k l0 l1 true) = some (r1, r2) := by rw [if_neg (show ¬ (false = true) by decide)] at H; exact H
  clear H
  have H := H1
  clear H1
  have H' := mk_ H
  clear H
  go_wp2
  go_meet
  case rel => exact ⟨_, (true), sd_, H', ⟨by first | omega | exact Nat.le_refl _⟩, ⟨bb_ HB⟩⟩
 case rest =>
  clear HC5
  obtain ⟨kq, x25_4, rfl, HA, HJ4, HB⟩ := hcut
  cases kq with
  | zero => exact absurd HA.out (by simp [cohousingref05_Add.j0])
  | succ kj4 =>
   have H := HA.out
   clear HA
   simp only [cohousingref05_Add.j0] at H
   by_cases c9 : x25_4 = true
   ·subst c9
    have H1 : (some (([] : List (S51)), 1)) = some (r1, r2) := by rw [if_pos rfl] at H; exact H
    clear H
    have H := H1
    clear H1
    simp only [Option.some.injEq, Prod.mk.injEq] at H
    obtain ⟨rfl, rfl⟩ := H
    go_wp2
    go_ret2
    exact ⟨_, ew_, by first | exact Kd.R_nil _ _ _ _ _ | exact Kd.N_nil _ _ _ _ _ | exact Kd.V_nil _ _ _ _ _ | exact Kd.Q_nil _ _ _ _ _ | exact Kd.S_nil _ _ _ _ _, bb_ HB⟩
   replace c9 := Bool.eq_false_iff.mpr c9
   subst c9
   have H1 : ((cohousingref05_Starts.f kj4 l0 l1).bind fun t344 => (cohousingref05_Add.l0 kj4 l0 l1 ([] : List (S51)) t344 0)) = some (r1, r2) := by rw [if_neg (show ¬ (false = true) by decide)] at H; exact H
   clear H
   have H := H1
   clear H1
   replace H := Option.bind_eq_some_iff.mp H
   obtain ⟨t344, A100, H⟩ := H
   replace H : (cohousingref05_Add.l0 kj4 l0 l1 ([] : List (S51)) t344 0) = some (r1, r2) := H
   have A10 := mk_ A100
   clear A100
   have H' := mk_ H
   clear H
   go_wp2_with (first | ((with_reducible refine gate_callee (f := 42) rfl ?_); refine gl_ (some 28) Try.func42 #[.slice A0 l0.length c0, .slice A1 l1.length c1] ?_; (with_reducible refine (cohousingref05_Starts.calls kj4 _ _ l0 _ _ l1 t344 _ ?side1 ?side2 ?side3 ?side4 A10.out).mono ?_); (case side1 => exact cc_ ((Kd.C_below HR0.out HB.out))); (case side2 => exact HC0.out); (case side3 => exact cc_ ((Kd.C_below HR1.out HB.out))); (case side4 => exact HC1.out); rintro e w11 ⟨v345, rfl, ho0, hb⟩; refine ⟨_, rfl, ?_⟩; have HO346 := mk_ (Kd.R_lower ho0 (below_size (bb_ HB))); replace HB := mk_ (below_step (bb_ HB) hb); (try clear hb); (try clear ho0)))
   go_loopg [8, 10] kj4 (fun kq v8 v10 w' => ∃ (x8_2 : List (S51)) (x10_2 : Int), v10 = .int .i64 x10_2 ∧ Aside0 (cohousingref05_Add.l0 kq l0 l1 x8_2 t344 x10_2 = some (r1, r2)) ∧ Aside0 (kq ≤ kj4) ∧ Aside0 (Kd.R k51 51 w' w.heap.size (fun _ => True) v8 x8_2) ∧ Aside0 (Kd.R (Kd.int .i64) 3 w' w.heap.size (fun _ => True) v345 t344) ∧ Aside0 (Below w.heap.size w w'))
   case atStart => exact ⟨(([] : List (S51))), (0), sd_, H', ⟨Nat.le_refl _⟩, ⟨by first | exact Kd.R_nil _ _ _ _ _ | exact Kd.N_nil _ _ _ _ _ | exact Kd.V_nil _ _ _ _ _ | exact Kd.Q_nil _ _ _ _ _ | exact Kd.S_nil _ _ _ _ _⟩, ⟨rr_ HO346⟩, ⟨bb_ HB⟩⟩
   case round =>
    clear H'
    obtain ⟨x8_2, x10_2, rfl, HA, HK2, HO_8, HO_9, HB⟩ := hrel
    cases gk with
    | zero => exact absurd HA.out (by simp [cohousingref05_Add.l0])
    | succ k2 =>
     have H := HA.out
     clear HA
     simp only [cohousingref05_Add.l0] at H
     by_cases c12 : x10_2 < (t344.length : Int)
     rotate_left
     ·rw [if_neg c12] at H
      have c12b0 : decide (x10_2 < (t344.length : Int)) = false := decide_eq_false c12
      clear c12
      replace H := Option.bind_eq_some_iff.mp H
      obtain ⟨⟨t347, t348⟩, A360, H⟩ := H
      replace H : (some (t347, t348)) = some (r1, r2) := H
      have A36 := mk_ A360
      clear A360
      simp only [Option.some.injEq, Prod.mk.injEq] at H
      obtain ⟨rfl, rfl⟩ := H
      obtain ⟨Ao37, co37, eo37⟩ := Kd.R_slice HO_9.out
      subst eo37
      obtain ⟨Ao38, co38, eo38⟩ := Kd.R_slice HO_8.out
      subst eo38
      go_wp2_with (first | ((with_reducible refine gate_callee (f := 45) rfl ?_); refine gl_ (some 64) Try.func45 #[.slice Ao38 x8_2.length co38] ?_; (with_reducible refine (cohousingref05_result.calls k2 _ _ x8_2 t347 t348 _ ?side1 ?side2 A36.out).mono ?_); (case side1 => exact cc_ ((Kd.R_reads' HO_8.out).2.2)); (case side2 => exact (Kd.R_reads' HO_8.out).2.1); rintro e w39 ⟨v349, rfl, ho0, hb⟩; refine ⟨_, rfl, ?_⟩; replace HO_9 := mk_ (Kd.R_below (rr_ HO_9) hb); have HO350 := mk_ (Kd.R_lower (Kd.R_new' ho0 (Kd.R_lt (rr_ HO_8))) (below_size (bb_ HB))); replace HO_8 := mk_ (Kd.R_elder' (rr_ HO_8) (Kd.R_base ho0) hb); replace HB := mk_ (below_step (bb_ HB) hb); (try clear hb); (try clear ho0)))
      go_ret2
      exact ⟨_, ew_, by (with_reducible repeat (first | apply Kd.R_alloc | apply Kd.R_drewN | apply Kd.R_drew)); exact Kd.R_mono HO350.out (fun _ hk => trivial), bb_ HB⟩
     rw [if_pos c12] at H
     have c12b0 : decide (x10_2 < (t344.length : Int)) = true := decide_eq_true c12
     clear c12
     by_cases c13 : 0 ≤ x10_2
     rotate_left
     ·rw [if_neg c13] at H
      exact absurd H (by simp)
     rw [if_pos c13] at H
     have c13b0 : decide (0 ≤ x10_2) = true := decide_eq_true c13
     clear c13
     replace H := Option.bind_eq_some_iff.mp H
     obtain ⟨⟨t352, t353, t354, t355, t356⟩, A140, H⟩ := H
     replace H : ((cohousingref05_Piece.f k2 l1 (rd t344 x10_2)).bind fun bt358 => ((cohousingref05_Line.f k2 t352 t353 t354 t355 t356 (rd t344 x10_2)).bind fun bt364 => ((cohousingref05_Line.f k2 bt358.1 bt358.2.1 bt358.2.2.1 bt358.2.2.2.1 bt358.2.2.2.2 (rd t344 x10_2)).bind fun bt366 => ((cohousingref05_Sum.f k2 bt364.1 bt364.2 bt366.1 bt366.2).bind fun bt368 => ((cohousingref05_Sum.f k2 t355 t356 bt358.2.2.2.1 bt358.2.2.2.2).bind fun bt370 => (if x8_2.length < 3518437208883 then (cohousingref05_Add.l0 k2 l0 l1 (x8_2 ++ [(⟨rd t344 x10_2, (⟨bt368.1, bt368.2⟩ : S24), (⟨bt370.1, bt370.2⟩ : S24)⟩ : S51)]) t344 (wrap64 (x10_2 + 1))) else (none))))))) = some (r1, r2) := H
     have A14 := mk_ A140
     clear A140
     replace H := Option.bind_eq_some_iff.mp H
     obtain ⟨⟨t358, t359, t360, t361, t362⟩, A150, H⟩ := H
     replace H : ((cohousingref05_Line.f k2 t352 t353 t354 t355 t356 (rd t344 x10_2)).bind fun bt364 => ((cohousingref05_Line.f k2 t358 t359 t360 t361 t362 (rd t344 x10_2)).bind fun bt366 => ((cohousingref05_Sum.f k2 bt364.1 bt364.2 bt366.1 bt366.2).bind fun bt368 => ((cohousingref05_Sum.f k2 t355 t356 t361 t362).bind fun bt370 => (if x8_2.length < 3518437208883 then (cohousingref05_Add.l0 k2 l0 l1 (x8_2 ++ [(⟨rd t344 x10_2, (⟨bt368.1, bt368.2⟩ : S24), (⟨bt370.1, bt370.2⟩ : S24)⟩ : S51)]) t344 (wrap64 (x10_2 + 1))) else (none)))))) = some (r1, r2) := H
     have A15 := mk_ A150
     clear A150
     replace H := Option.bind_eq_some_iff.mp H
     obtain ⟨⟨t364, t365⟩, A160, H⟩ := H
     replace H : ((cohousingref05_Line.f k2 t358 t359 t360 t361 t362 (rd t344 x10_2)).bind fun bt366 => ((cohousingref05_Sum.f k2 t364 t365 bt366.1 bt366.2).bind fun bt368 => ((cohousingref05_Sum.f k2 t355 t356 t361 t362).bind fun bt370 => (if x8_2.length < 3518437208883 then (cohousingref05_Add.l0 k2 l0 l1 (x8_2 ++ [(⟨rd t344 x10_2, (⟨bt368.1, bt368.2⟩ : S24), (⟨bt370.1, bt370.2⟩ : S24)⟩ : S51)]) t344 (wrap64 (x10_2 + 1))) else (none))))) = some (r1, r2) := H
     have A16 := mk_ A160
     clear A160
     replace H := Option.bind_eq_some_iff.mp H
     obtain ⟨⟨t366, t367⟩, A170, H⟩ := H
     replace H : ((cohousingref05_Sum.f k2 t364 t365 t366 t367).bind fun bt368 => ((cohousingref05_Sum.f k2 t355 t356 t361 t362).bind fun bt370 => (if x8_2.length < 3518437208883 then (cohousingref05_Add.l0 k2 l0 l1 (x8_2 ++ [(⟨rd t344 x10_2, (⟨bt368.1, bt368.2⟩ : S24), (⟨bt370.1, bt370.2⟩ : S24)⟩ : S51)]) t344 (wrap64 (x10_2 + 1))) else (none)))) = some (r1, r2) := H
     have A17 := mk_ A170
     clear A170
     replace H := Option.bind_eq_some_iff.mp H
     obtain ⟨⟨t368, t369⟩, A180, H⟩ := H
     replace H : ((cohousingref05_Sum.f k2 t355 t356 t361 t362).bind fun bt370 => (if x8_2.length < 3518437208883 then (cohousingref05_Add.l0 k2 l0 l1 (x8_2 ++ [(⟨rd t344 x10_2, (⟨t368, t369⟩ : S24), (⟨bt370.1, bt370.2⟩ : S24)⟩ : S51)]) t344 (wrap64 (x10_2 + 1))) else (none))) = some (r1, r2) := H
     have A18 := mk_ A180
     clear A180
     replace H := Option.bind_eq_some_iff.mp H
     obtain ⟨⟨t370, t371⟩, A190, H⟩ := H
     replace H : (if x8_2.length < 3518437208883 then (cohousingref05_Add.l0 k2 l0 l1 (x8_2 ++ [(⟨rd t344 x10_2, (⟨t368, t369⟩ : S24), (⟨t370, t371⟩ : S24)⟩ : S51)]) t344 (wrap64 (x10_2 + 1))) else (none)) = some (r1, r2) := H
     have A19 := mk_ A190
     clear A190
     by_cases c20 : x8_2.length < 3518437208883
     rotate_left
     ·rw [if_neg c20] at H
      exact absurd H (by simp)
     rw [if_pos c20] at H
     have LMc20 := mk_ c20
     clear c20
     obtain ⟨y372, hy372⟩ : ∃ y_ : List (S51), y_ = (x8_2 ++ [(⟨rd t344 x10_2, (⟨t368, t369⟩ : S24), (⟨t370, t371⟩ : S24)⟩ : S51)]) := ⟨_, rfl⟩
     replace H : (cohousingref05_Add.l0 k2 l0 l1 y372 t344 (wrap64 (x10_2 + 1))) = some (r1, r2) := by first | (rw [hy372]; with_reducible exact H) | (have H2_ := (Option.bind_some _ _).symm.trans H; rw [hy372]; with_reducible exact H2_) | (have H2_ := (Option.bind_some _ _).symm.trans H; with_reducible exact H2_) | with_reducible exact H | (rw [hy372]; exact H) | exact H
     have Ny372 := mk_ hy372
     clear hy372
     have H' := mk_ H
     clear H
     obtain ⟨Ao21, co21, eo21⟩ := Kd.R_slice HO_9.out
     subst eo21
     have p351 : 0 ≤ (x10_2 : Int) := od_
     have q351 : x10_2 < (t344.length : Int) := od_
     obtain ⟨ad351, e351, hx351_0⟩ := Kd.at_int (Kd.R_reads' HO_9.out).2.2 x10_2 p351 q351
     cases e351
     replace p351 := eq_true p351
     replace q351 := eq_true q351
     try go_wp2_with (first | ((with_reducible refine gate_callee (f := 43) rfl ?_); refine gl_ (some 41) Try.func43 #[.slice A0 l0.length c0, .int .i64 (rd t344 x10_2)] ?_; (with_reducible refine (cohousingref05_Piece.calls k2 _ _ l0 (rd t344 x10_2) t352 t353 t354 t355 t356 _ ?side1 ?side2 A14.out).mono ?_); (case side1 => exact cc_ ((Kd.C_below HR0.out HB.out))); (case side2 => exact HC0.out); rintro e w22 ⟨rfl, hb⟩; refine ⟨_, rfl, ?_⟩; replace HO_8 := mk_ (Kd.R_below (rr_ HO_8) hb); replace HO_9 := mk_ (Kd.R_below (rr_ HO_9) hb); replace HB := mk_ (below_step (bb_ HB) hb); (try clear hb)) | ((with_reducible refine gate_dst (N := 12) rfl ?_); refine box_event ?hg (N := 12) ?hd (cs := #[.int .i64 0, .int .i64 0, .int .i64 0, .int .i64 0, .int .i64 0]) (t := 51) ?hr ?_; (case hd => rfl); (case hg => rfl); (case hr => first | (go_simp; done) | (go_simp; rfl)); intro gb357 hg w23 hbox hb; replace HO_8 := mk_ (Kd.R_below (Kd.R_elderB (rr_ HO_8) gb357 (Nat.le_of_eq hg.symm)) hb); replace HO_9 := mk_ (Kd.R_below (rr_ HO_9) hb); have BK357 := mk_ (hbox); have GW357 := mk_ (bz_ hg (bb_ HB)); have GE357 := mk_ (bz_ hg (bb_ HB)); replace HB := mk_ (below_step (bb_ HB) hb); clear hb hbox hg; have hcz24_0 := bc0_ BK357.out; have hcz24_1 := bc1_ BK357.out; have hcz24_2 := bc2_ BK357.out; have hcz24_3 : w23.cell? ⟨gb357, 3, none⟩ = some (.int .i64 0) := (blk_cell BK357.out 3).trans rfl; have hcz24_4 : w23.cell? ⟨gb357, 4, none⟩ = some (.int .i64 0) := (blk_cell BK357.out 4).trans rfl; have hfz24_0 := blk_frozen BK357.out 0; have hfz24_1 := blk_frozen BK357.out 1; have hfz24_2 := blk_frozen BK357.out 2; have hfz24_3 := blk_frozen BK357.out 3; have hfz24_4 := blk_frozen BK357.out 4) | ((with_reducible refine gate_callee (f := 43) rfl ?_); refine gl_ (some 44) Try.func43 #[.slice A1 l1.length c1, .int .i64 (rd t344 x10_2)] ?_; (with_reducible refine (cohousingref05_Piece.calls k2 _ _ l1 (rd t344 x10_2) t358 t359 t360 t361 t362 _ ?side1 ?side2 A15.out).mono ?_); (case side1 => exact Kd.C_below HR1.out (bs_ HB GE357.out)); (case side2 => exact HC1.out); rintro e w25 ⟨rfl, hb⟩; refine ⟨_, rfl, ?_⟩; replace HO_8 := mk_ (Kd.R_below (by (with_reducible repeat (first | apply Kd.R_alloc | apply Kd.R_drewN | apply Kd.R_drew)); exact (Kd.R_mono (Kd.R_far (p := ⟨gb357, 4, none⟩) (Kd.R_far (p := ⟨gb357, 3, none⟩) (Kd.R_far (p := ⟨gb357, 2, none⟩) (Kd.R_far (p := ⟨gb357, 1, none⟩) (Kd.R_far (p := ⟨gb357, 0, none⟩) (Kd.R_mono HO_8.out (fun k_ hk => (⟨hk, hk.2⟩ : _ ∧ k_ ≠ gb357))) (fun _ hk => hk.2) (.int .i64 t352)) (fun _ hk => hk.2) (.int .i64 t353)) (fun _ hk => hk.2) (.int .i64 t354)) (fun _ hk => hk.2) (.int .i64 t355)) (fun _ hk => hk.2) (.int .i64 t356)) (fun _ h_ => h_.1))) hb); replace HO_9 := mk_ (Kd.R_below (by (with_reducible repeat (first | apply Kd.R_alloc | apply Kd.R_drewN | apply Kd.R_drew)); exact (Kd.R_mono (Kd.R_far (p := ⟨gb357, 4, none⟩) (Kd.R_far (p := ⟨gb357, 3, none⟩) (Kd.R_far (p := ⟨gb357, 2, none⟩) (Kd.R_far (p := ⟨gb357, 1, none⟩) (Kd.R_far (p := ⟨gb357, 0, none⟩) (Kd.R_types HO_9.out BK357.out (by decide)) (fun _ hk => hk.2) (.int .i64 t352)) (fun _ hk => hk.2) (.int .i64 t353)) (fun _ hk => hk.2) (.int .i64 t354)) (fun _ hk => hk.2) (.int .i64 t355)) (fun _ hk => hk.2) (.int .i64 t356)) (fun _ h_ => h_.1))) hb); replace BK357 := mk_ (blk_below (g := gb357) (o := .cells #[.int .i64 t352, .int .i64 t353, .int .i64 t354, .int .i64 t355, .int .i64 t356] 51 (0, 0)) (by (with_reducible repeat (first | refine blk_drewN ?_ _ | refine blk_drew ?_ | refine blk_alloc ?_ _)); refine blk_put (cs := #[.int .i64 t352, .int .i64 t353, .int .i64 t354, .int .i64 t355, .int .i64 0]) ?_ 4 _ rfl; (with_reducible repeat (first | refine blk_drewN ?_ _ | refine blk_drew ?_ | refine blk_alloc ?_ _)); refine blk_put (cs := #[.int .i64 t352, .int .i64 t353, .int .i64 t354, .int .i64 0, .int .i64 0]) ?_ 3 _ rfl; (with_reducible repeat (first | refine blk_drewN ?_ _ | refine blk_drew ?_ | refine blk_alloc ?_ _)); refine blk_put (cs := #[.int .i64 t352, .int .i64 t353, .int .i64 0, .int .i64 0, .int .i64 0]) ?_ 2 _ rfl; (with_reducible repeat (first | refine blk_drewN ?_ _ | refine blk_drew ?_ | refine blk_alloc ?_ _)); refine blk_put (cs := #[.int .i64 t352, .int .i64 0, .int .i64 0, .int .i64 0, .int .i64 0]) ?_ 1 _ rfl; (with_reducible repeat (first | refine blk_drewN ?_ _ | refine blk_drew ?_ | refine blk_alloc ?_ _)); refine blk_put (cs := #[.int .i64 0, .int .i64 0, .int .i64 0, .int .i64 0, .int .i64 0]) ?_ 0 _ rfl; (with_reducible repeat (first | refine blk_drewN ?_ _ | refine blk_drew ?_ | refine blk_alloc ?_ _)); exact BK357.out) hb); replace HB := mk_ (below_step (bs_ HB GE357.out) hb); (try clear hb)) | ((with_reducible refine gate_dst (N := 13) rfl ?_); refine box_event ?hg (N := 13) ?hd (cs := #[.int .i64 0, .int .i64 0, .int .i64 0, .int .i64 0, .int .i64 0]) (t := 51) ?hr ?_; (case hd => rfl); (case hg => rfl); (case hr => first | (go_simp; done) | (go_simp; rfl)); intro gb363 hg w26 hbox hb; replace HO_8 := mk_ (Kd.R_below (Kd.R_elderB (rr_ HO_8) gb363 (Nat.le_of_eq hg.symm)) hb); replace HO_9 := mk_ (Kd.R_below (rr_ HO_9) hb); have BK363 := mk_ (hbox); have GW363 := mk_ (bz_ hg (bs_ HB GE357.out)); have GE363 := mk_ (bz_ hg (bs_ HB GE357.out)); replace HB := mk_ (below_step (bs_ HB GE357.out) hb); have NB357_363 := mk_ (bl_ hg (kk_ BK357)); have NB363_357 := mk_ (bg_ hg (kk_ BK357)); replace BK357 := mk_ (blk_below (kk_ BK357) hb); clear hb hbox hg; have hnb27 := NB363_357.out; have hnc27 := NB357_363.out; have hcz28_0 := bc0_ BK363.out; have hcz28_1 := bc1_ BK363.out; have hcz28_2 := bc2_ BK363.out; have hcz28_3 : w26.cell? ⟨gb363, 3, none⟩ = some (.int .i64 0) := (blk_cell BK363.out 3).trans rfl; have hcz28_4 : w26.cell? ⟨gb363, 4, none⟩ = some (.int .i64 0) := (blk_cell BK363.out 4).trans rfl; have hfz28_0 := blk_frozen BK363.out 0; have hfz28_1 := blk_frozen BK363.out 1; have hfz28_2 := blk_frozen BK363.out 2; have hfz28_3 := blk_frozen BK363.out 3; have hfz28_4 := blk_frozen BK363.out 4))
     have n0_ : Aside0 (Kd.R k51 51 (((((w26.setCell ⟨gb363, 0, none⟩ (.int .i64 t358)).setCell ⟨gb363, 1, none⟩ (.int .i64 t359)).setCell ⟨gb363, 2, none⟩ (.int .i64 t360)).setCell ⟨gb363, 3, none⟩ (.int .i64 t361)).setCell ⟨gb363, 4, none⟩ (.int .i64 t362)) w.heap.size (fun k_ => k_ ≠ gb357 ∧ k_ ≠ gb363) u8 x8_2) := ⟨by (with_reducible repeat (first | apply Kd.R_alloc | apply Kd.R_drewN | apply Kd.R_drew)); exact Kd.R_mono (Kd.R_far (p := ⟨gb363, 4, none⟩) (Kd.R_far (p := ⟨gb363, 3, none⟩) (Kd.R_far (p := ⟨gb363, 2, none⟩) (Kd.R_far (p := ⟨gb363, 1, none⟩) (Kd.R_far (p := ⟨gb363, 0, none⟩) (Kd.R_mono HO_8.out (fun k_ hk => (⟨hk, hk.2⟩ : _ ∧ k_ ≠ gb363))) (fun _ hk => hk.2) (.int .i64 t358)) (fun _ hk => hk.2) (.int .i64 t359)) (fun _ hk => hk.2) (.int .i64 t360)) (fun _ hk => hk.2) (.int .i64 t361)) (fun _ hk => hk.2) (.int .i64 t362)) wm_⟩
     have n1_ : Aside0 (Kd.R (Kd.int .i64) 3 (((((w26.setCell ⟨gb363, 0, none⟩ (.int .i64 t358)).setCell ⟨gb363, 1, none⟩ (.int .i64 t359)).setCell ⟨gb363, 2, none⟩ (.int .i64 t360)).setCell ⟨gb363, 3, none⟩ (.int .i64 t361)).setCell ⟨gb363, 4, none⟩ (.int .i64 t362)) w.heap.size (fun _ => True) (.slice (some ad351) t344.length co21) t344) := ⟨by (with_reducible repeat (first | apply Kd.R_alloc | apply Kd.R_drewN | apply Kd.R_drew)); exact Kd.R_mono (Kd.R_far (p := ⟨gb363, 4, none⟩) (Kd.R_far (p := ⟨gb363, 3, none⟩) (Kd.R_far (p := ⟨gb363, 2, none⟩) (Kd.R_far (p := ⟨gb363, 1, none⟩) (Kd.R_far (p := ⟨gb363, 0, none⟩) (Kd.R_types HO_9.out BK363.out (by decide)) (fun _ hk => hk.2) (.int .i64 t358)) (fun _ hk => hk.2) (.int .i64 t359)) (fun _ hk => hk.2) (.int .i64 t360)) (fun _ hk => hk.2) (.int .i64 t361)) (fun _ hk => hk.2) (.int .i64 t362)) (fun _ hk => trivial)⟩
     have n2_ : Aside0 ((((((w26.setCell ⟨gb363, 0, none⟩ (.int .i64 t358)).setCell ⟨gb363, 1, none⟩ (.int .i64 t359)).setCell ⟨gb363, 2, none⟩ (.int .i64 t360)).setCell ⟨gb363, 3, none⟩ (.int .i64 t361)).setCell ⟨gb363, 4, none⟩ (.int .i64 t362)).heap[gb357]? = some (.cells #[.int .i64 t352, .int .i64 t353, .int .i64 t354, .int .i64 t355, .int .i64 t356] 51 (0, 0))) := ⟨by (with_reducible repeat (first | refine blk_drewN ?_ _ | refine blk_drew ?_ | refine blk_alloc ?_ _)); refine blk_far ?_ NB357_363.out _; (with_reducible repeat (first | refine blk_drewN ?_ _ | refine blk_drew ?_ | refine blk_alloc ?_ _)); refine blk_far ?_ NB357_363.out _; (with_reducible repeat (first | refine blk_drewN ?_ _ | refine blk_drew ?_ | refine blk_alloc ?_ _)); refine blk_far ?_ NB357_363.out _; (with_reducible repeat (first | refine blk_drewN ?_ _ | refine blk_drew ?_ | refine blk_alloc ?_ _)); refine blk_far ?_ NB357_363.out _; (with_reducible repeat (first | refine blk_drewN ?_ _ | refine blk_drew ?_ | refine blk_alloc ?_ _)); refine blk_far ?_ NB357_363.out _; (with_reducible repeat (first | refine blk_drewN ?_ _ | refine blk_drew ?_ | refine blk_alloc ?_ _)); exact BK357.out⟩
     have n3_ : Aside0 ((((((w26.setCell ⟨gb363, 0, none⟩ (.int .i64 t358)).setCell ⟨gb363, 1, none⟩ (.int .i64 t359)).setCell ⟨gb363, 2, none⟩ (.int .i64 t360)).setCell ⟨gb363, 3, none⟩ (.int .i64 t361)).setCell ⟨gb363, 4, none⟩ (.int .i64 t362)).heap[gb363]? = some (.cells #[.int .i64 t358, .int .i64 t359, .int .i64 t360, .int .i64 t361, .int .i64 t362] 51 (0, 0))) := ⟨by (with_reducible repeat (first | refine blk_drewN ?_ _ | refine blk_drew ?_ | refine blk_alloc ?_ _)); refine blk_put (cs := #[.int .i64 t358, .int .i64 t359, .int .i64 t360, .int .i64 t361, .int .i64 0]) ?_ 4 _ rfl; (with_reducible repeat (first | refine blk_drewN ?_ _ | refine blk_drew ?_ | refine blk_alloc ?_ _)); refine blk_put (cs := #[.int .i64 t358, .int .i64 t359, .int .i64 t360, .int .i64 0, .int .i64 0]) ?_ 3 _ rfl; (with_reducible repeat (first | refine blk_drewN ?_ _ | refine blk_drew ?_ | refine blk_alloc ?_ _)); refine blk_put (cs := #[.int .i64 t358, .int .i64 t359, .int .i64 0, .int .i64 0, .int .i64 0]) ?_ 2 _ rfl; (with_reducible repeat (first | refine blk_drewN ?_ _ | refine blk_drew ?_ | refine blk_alloc ?_ _)); refine blk_put (cs := #[.int .i64 t358, .int .i64 0, .int .i64 0, .int .i64 0, .int .i64 0]) ?_ 1 _ rfl; (with_reducible repeat (first | refine blk_drewN ?_ _ | refine blk_drew ?_ | refine blk_alloc ?_ _)); refine blk_put (cs := #[.int .i64 0, .int .i64 0, .int .i64 0, .int .i64 0, .int .i64 0]) ?_ 0 _ rfl; (with_reducible repeat (first | refine blk_drewN ?_ _ | refine blk_drew ?_ | refine blk_alloc ?_ _)); exact BK363.out⟩
     have n4_ : Aside0 (Below w.heap.size w (((((w26.setCell ⟨gb363, 0, none⟩ (.int .i64 t358)).setCell ⟨gb363, 1, none⟩ (.int .i64 t359)).setCell ⟨gb363, 2, none⟩ (.int .i64 t360)).setCell ⟨gb363, 3, none⟩ (.int .i64 t361)).setCell ⟨gb363, 4, none⟩ (.int .i64 t362))) := ⟨bs2_ HB GE357 GE363⟩
     (try clear HO_8)
     (try clear HO_9)
     (try clear BK357)
     (try clear BK363)
     (try clear HB)
     generalize (((((w26.setCell ⟨gb363, 0, none⟩ (.int .i64 t358)).setCell ⟨gb363, 1, none⟩ (.int .i64 t359)).setCell ⟨gb363, 2, none⟩ (.int .i64 t360)).setCell ⟨gb363, 3, none⟩ (.int .i64 t361)).setCell ⟨gb363, 4, none⟩ (.int .i64 t362)) = w29 at n0_ n1_ n2_ n3_ n4_ ⊢
     have HO_8 := n0_
     have HO_9 := n1_
     have BK357 := n2_
     have BK363 := n3_
     have HB := n4_
     clear n0_ n1_ n2_ n3_ n4_
     replace HO_8 := mk_ (Kd.R_drew HO_8.out)
     replace HO_9 := mk_ (Kd.R_drew HO_9.out)
     replace BK357 := mk_ (blk_drew BK357.out)
     replace BK363 := mk_ (blk_drew BK363.out)
     replace HB := mk_ (below_drew1 HB.out)
     refine start_ (n := 18) (S := fun w' => w'.cell? ⟨gb357, 0, none⟩ = some (.int .i64 t352) ∧ w'.cell? ⟨gb357, 1, none⟩ = some (.int .i64 t353) ∧ w'.cell? ⟨gb357, 2, none⟩ = some (.int .i64 t354) ∧ w'.cell? ⟨gb357, 3, none⟩ = some (.int .i64 t355) ∧ w'.cell? ⟨gb357, 4, none⟩ = some (.int .i64 t356) ∧ w'.cell? ⟨gb363, 0, none⟩ = some (.int .i64 t358) ∧ w'.cell? ⟨gb363, 1, none⟩ = some (.int .i64 t359) ∧ w'.cell? ⟨gb363, 2, none⟩ = some (.int .i64 t360) ∧ w'.cell? ⟨gb363, 3, none⟩ = some (.int .i64 t361) ∧ w'.cell? ⟨gb363, 4, none⟩ = some (.int .i64 t362)) (ds := []) #[n_, n_, n_, n_, n_, n_, n_, n_, n_, n_, n_, n_, n_, n_, n_, n_, n_, n_] (by kernel_rfl) rfl rfl ⟨(blk_cell BK357.out 0).trans rfl, (blk_cell BK357.out 1).trans rfl, (blk_cell BK357.out 2).trans rfl, (blk_cell BK357.out 3).trans rfl, (blk_cell BK357.out 4).trans rfl, (blk_cell BK363.out 0).trans rfl, (blk_cell BK363.out 1).trans rfl, (blk_cell BK363.out 2).trans rfl, (blk_cell BK363.out 3).trans rfl, (blk_cell BK363.out 4).trans rfl⟩ (fun hHeld => ?_); refine with_tabW cohousingref05_Add.tab13 cohousingref05_Add.bits13 (fun HT_ HW_ => ?_)
     generalize w29.drew = w30 at HO_8 HO_9 BK357 BK363 HB hHeld ⊢
     refine pu_ 0 45 (w_ 18 1) rfl HT_ ?_
     refine pu_ 1 46 (w_ 18 3) rfl HT_ ?_
     refine pu_ 3 48 (w_ 18 11) rfl HT_ ?_
     refine pu_ 6 51 (w_ 18 75) rfl HT_ ?_
     refine pu_ 9 54 (w_ 18 587) rfl HT_ ?_
     refine pu_ 11 56 (w_ 18 2635) rfl HT_ ?_
     refine ta_ 2 47 (w_ 18 2639) rfl HT_ HW_ hHeld (by rintro w' ⟨s0, s1, s2, s3, s4, s5, s6, s7, s8, s9⟩; go_simp; with_reducible rfl) ?_
     refine ta_ 5 50 (w_ 18 2671) rfl HT_ HW_ hHeld (by rintro w' ⟨s0, s1, s2, s3, s4, s5, s6, s7, s8, s9⟩; go_simp; with_reducible rfl) ?_
     refine ta_ 10 55 (w_ 18 3695) rfl HT_ HW_ hHeld (by rintro w' ⟨s0, s1, s2, s3, s4, s5, s6, s7, s8, s9⟩; go_simp; with_reducible rfl) ?_
     refine ta_ 12 57 (w_ 18 7791) rfl HT_ HW_ hHeld (by rintro w' ⟨s0, s1, s2, s3, s4, s5, s6, s7, s8, s9⟩; go_simp; with_reducible rfl) ?_
     refine one_ (i := 4) (N := some 49) (w_ 18 7807) rfl rfl (one_of HT_.out (by kernel_rfl)) (by decide) (fun K hK => ?_)
     refine goes_ Try.func44 (by kernel_rfl) rfl #[.agg #[.int .i64 t352, .int .i64 t353, .int .i64 t354, .int .i64 t355, .int .i64 t356], .int .i64 (rd t344 x10_2)] (by rfl) rfl rfl (by (try simp only [List.map_toArray, List.map_cons, List.map_nil]); first | done | rfl | (simp only [List.length_drop, List.length_take]; rfl)) ?_
     with_reducible refine (cohousingref05_Line.calls k2 t352 t353 t354 t355 t356 (rd t344 x10_2) t364 t365 _ A16.out).mono ?_
     rintro e w31 ⟨rfl, hb⟩
     refine ⟨_, rfl, ?_⟩
     replace HO_8 := mk_ (Kd.R_below (rr_ HO_8) hb)
     replace HO_9 := mk_ (Kd.R_below (rr_ HO_9) hb)
     replace BK357 := mk_ (blk_below (kk_ BK357) hb)
     replace BK363 := mk_ (blk_below (kk_ BK363) hb)
     replace HB := mk_ (below_step (bs2_ HB GE357 GE363) hb)
     (try clear hb)
     refine hK.out _ _ ⟨(blk_cell BK357.out 0).trans rfl, (blk_cell BK357.out 1).trans rfl, (blk_cell BK357.out 2).trans rfl, (blk_cell BK357.out 3).trans rfl, (blk_cell BK357.out 4).trans rfl, (blk_cell BK363.out 0).trans rfl, (blk_cell BK363.out 1).trans rfl, (blk_cell BK363.out 2).trans rfl, (blk_cell BK363.out 3).trans rfl, (blk_cell BK363.out 4).trans rfl⟩ (fun hHeld => ?_)
     clear hK K
     refine norm_ (a' := ?_) ?_ ?_
     rotate_left
     ·show Act.put _ (some 49) _ = _
      simp only [Act.put, sI_, s0_, sS_, i64_w, i32_w]
      rfl
     refine one_ (i := 7) (N := some 52) (w_ 18 7935) rfl rfl (one_of HT_.out (by kernel_rfl)) (by decide) (fun K hK => ?_)
     refine goes_ Try.func44 (by kernel_rfl) rfl #[.agg #[.int .i64 t358, .int .i64 t359, .int .i64 t360, .int .i64 t361, .int .i64 t362], .int .i64 (rd t344 x10_2)] (by rfl) rfl rfl (by (try simp only [List.map_toArray, List.map_cons, List.map_nil]); first | done | rfl | (simp only [List.length_drop, List.length_take]; rfl)) ?_
     with_reducible refine (cohousingref05_Line.calls k2 t358 t359 t360 t361 t362 (rd t344 x10_2) t366 t367 _ A17.out).mono ?_
     rintro e w32 ⟨rfl, hb⟩
     refine ⟨_, rfl, ?_⟩
     replace HO_8 := mk_ (Kd.R_below (rr_ HO_8) hb)
     replace HO_9 := mk_ (Kd.R_below (rr_ HO_9) hb)
     replace BK357 := mk_ (blk_below (kk_ BK357) hb)
     replace BK363 := mk_ (blk_below (kk_ BK363) hb)
     replace HB := mk_ (below_step (bs2_ HB GE357 GE363) hb)
     (try clear hb)
     refine hK.out _ _ ⟨(blk_cell BK357.out 0).trans rfl, (blk_cell BK357.out 1).trans rfl, (blk_cell BK357.out 2).trans rfl, (blk_cell BK357.out 3).trans rfl, (blk_cell BK357.out 4).trans rfl, (blk_cell BK363.out 0).trans rfl, (blk_cell BK363.out 1).trans rfl, (blk_cell BK363.out 2).trans rfl, (blk_cell BK363.out 3).trans rfl, (blk_cell BK363.out 4).trans rfl⟩ (fun hHeld => ?_)
     clear hK K
     refine norm_ (a' := ?_) ?_ ?_
     rotate_left
     ·show Act.put _ (some 52) _ = _
      simp only [Act.put, sI_, s0_, sS_, i64_w, i32_w]
      rfl
     refine one_ (i := 8) (N := some 53) (w_ 18 8191) rfl rfl (one_of HT_.out (by kernel_rfl)) (by decide) (fun K hK => ?_)
     refine goes_ Try.func28 (by kernel_rfl) rfl #[.agg #[.int .i64 t364, .int .i64 t365], .agg #[.int .i64 t366, .int .i64 t367]] (by rfl) rfl rfl (by (try simp only [List.map_toArray, List.map_cons, List.map_nil]); first | done | rfl | (simp only [List.length_drop, List.length_take]; rfl)) ?_
     with_reducible refine (cohousingref05_Sum.calls k2 t364 t365 t366 t367 t368 t369 _ A18.out).mono ?_
     rintro e w33 ⟨rfl, hb⟩
     refine ⟨_, rfl, ?_⟩
     replace HO_8 := mk_ (Kd.R_below (rr_ HO_8) hb)
     replace HO_9 := mk_ (Kd.R_below (rr_ HO_9) hb)
     replace BK357 := mk_ (blk_below (kk_ BK357) hb)
     replace BK363 := mk_ (blk_below (kk_ BK363) hb)
     replace HB := mk_ (below_step (bs2_ HB GE357 GE363) hb)
     (try clear hb)
     refine hK.out _ _ ⟨(blk_cell BK357.out 0).trans rfl, (blk_cell BK357.out 1).trans rfl, (blk_cell BK357.out 2).trans rfl, (blk_cell BK357.out 3).trans rfl, (blk_cell BK357.out 4).trans rfl, (blk_cell BK363.out 0).trans rfl, (blk_cell BK363.out 1).trans rfl, (blk_cell BK363.out 2).trans rfl, (blk_cell BK363.out 3).trans rfl, (blk_cell BK363.out 4).trans rfl⟩ (fun hHeld => ?_)
     clear hK K
     refine norm_ (a' := ?_) ?_ ?_
     rotate_left
     ·show Act.put _ (some 53) _ = _
      simp only [Act.put, sI_, s0_, sS_, i64_w, i32_w]
      rfl
     refine one_ (i := 13) (N := some 58) (w_ 18 16383) rfl rfl (one_of HT_.out (by kernel_rfl)) (by decide) (fun K hK => ?_)
     refine goes_ Try.func28 (by kernel_rfl) rfl #[.agg #[.int .i64 t355, .int .i64 t356], .agg #[.int .i64 t361, .int .i64 t362]] (by rfl) rfl rfl (by (try simp only [List.map_toArray, List.map_cons, List.map_nil]); first | done | rfl | (simp only [List.length_drop, List.length_take]; rfl)) ?_
     with_reducible refine (cohousingref05_Sum.calls k2 t355 t356 t361 t362 t370 t371 _ A19.out).mono ?_
     rintro e w34 ⟨rfl, hb⟩
     refine ⟨_, rfl, ?_⟩
     replace HO_8 := mk_ (Kd.R_below (rr_ HO_8) hb)
     replace HO_9 := mk_ (Kd.R_below (rr_ HO_9) hb)
     replace BK357 := mk_ (blk_below (kk_ BK357) hb)
     replace BK363 := mk_ (blk_below (kk_ BK363) hb)
     replace HB := mk_ (below_step (bs2_ HB GE357 GE363) hb)
     (try clear hb)
     refine hK.out _ _ ⟨(blk_cell BK357.out 0).trans rfl, (blk_cell BK357.out 1).trans rfl, (blk_cell BK357.out 2).trans rfl, (blk_cell BK357.out 3).trans rfl, (blk_cell BK357.out 4).trans rfl, (blk_cell BK363.out 0).trans rfl, (blk_cell BK363.out 1).trans rfl, (blk_cell BK363.out 2).trans rfl, (blk_cell BK363.out 3).trans rfl, (blk_cell BK363.out 4).trans rfl⟩ (fun hHeld => ?_)
     clear hK K
     refine norm_ (a' := ?_) ?_ ?_
     rotate_left
     ·show Act.put _ (some 58) _ = _
      simp only [Act.put, sI_, s0_, sS_, i64_w, i32_w]
      rfl
     refine pu_ 14 59 (w_ 18 32767) rfl HT_ ?_
     refine one_ (i := 15) (N := some 60) (w_ 18 65535) rfl rfl (one_of HT_.out (by kernel_rfl)) (by decide) (fun K hK => ?_)
     refine value_ (w1 := ?_) (v := ?_) (by rfl) rfl ?_ ?_
     rotate_left 2
     ·go_simp
      constructor
      ·rfl
      ·rfl
     refine hK.out _ _ ⟨(blk_cell (blk_alloc BK357.out _) 0).trans rfl, (blk_cell (blk_alloc BK357.out _) 1).trans rfl, (blk_cell (blk_alloc BK357.out _) 2).trans rfl, (blk_cell (blk_alloc BK357.out _) 3).trans rfl, (blk_cell (blk_alloc BK357.out _) 4).trans rfl, (blk_cell (blk_alloc BK363.out _) 0).trans rfl, (blk_cell (blk_alloc BK363.out _) 1).trans rfl, (blk_cell (blk_alloc BK363.out _) 2).trans rfl, (blk_cell (blk_alloc BK363.out _) 3).trans rfl, (blk_cell (blk_alloc BK363.out _) 4).trans rfl⟩ (fun hHeld => ?_)
     clear hK K
     refine norm_ (a' := ?_) ?_ ?_
     rotate_left
     ·show Act.put _ (some 60) _ = _
      simp only [Act.put, sI_, s0_, sS_, i64_w, i32_w]
      rfl
     refine one_ (i := 16) (N := some 61) (w_ 18 131071) rfl rfl (one_of HT_.out (by kernel_rfl)) (by decide) (fun K hK => ?_)
     refine Kd.R_append_step k51 (w0 := w) w.heap.size (by rfl) (.tmp 45) (.tmp 60) 22 51 (.agg #[(.int .i64 0), (.int .i64 0), (.int .i64 0), (.int .i64 0), (.int .i64 0)]) 40 rfl Try.underlying22 info51 rfl (by decide) (by omega) u8 x8_2 (⟨rd t344 x10_2, (⟨t368, t369⟩ : S24), (⟨t370, t371⟩ : S24)⟩ : S51) [.int .i64 (rd t344 x10_2), .int .i64 t368, .int .i64 t369, .int .i64 t370, .int .i64 t371] (fun k_ => k_ ≠ gb357 ∧ k_ ≠ gb363) (fun _ => False) rfl rfl ?aP (fun _ hk => hk.elim) ?aF ?aO ?aB ?aS ?aL ?_
     (case aP => exact k51_mkM _ _ _ (⟨rd t344 x10_2, (⟨t368, t369⟩ : S24), (⟨t370, t371⟩ : S24)⟩ : S51))
     (case aB => exact (bs2_ HB GE357 GE363))
     (case aF => exact (fun k_ hk => ⟨Kd.freshB (g := gb357) (o := .cells #[.int .i64 t352, .int .i64 t353, .int .i64 t354, .int .i64 t355, .int .i64 t356] 51 (0, 0)) (kk_ BK357) k_ hk, Kd.freshB (g := gb363) (o := .cells #[.int .i64 t358, .int .i64 t359, .int .i64 t360, .int .i64 t361, .int .i64 t362] 51 (0, 0)) (kk_ BK363) k_ hk⟩))
     (case aO => exact (rr_ HO_8))
     (case aS => exact (below_size (bs2_ HB GE357 GE363)))
     (case aL => have := LMc20.out; omega)
     intro v373 w35 ho hb hg hat
     rw [← Ny372.out] at ho
     have n0_ := mk_ (Kd.R_over' (rr_ HO_9) (Kd.R_typed (rr_ HO_8)) (by decide) hg)
     have n1_ := mk_ (blk_grown (kk_ BK357) hg (Kd.R_away HO_8.out (fun _ hk => hk.1)))
     have n2_ := mk_ (blk_grown (kk_ BK363) hg (Kd.R_away HO_8.out (fun _ hk => hk.2)))
     have n3_ := mk_ (hb)
     have n4_ := mk_ (ho)
     clear HO_9
     clear BK357
     clear BK363
     clear HB
     clear HO_8
     have HO_9 := n0_
     have BK357 := n1_
     have BK363 := n2_
     have HB := n3_
     have HO374 := n4_
     clear n0_ n1_ n2_ n3_ n4_
     clear ho hb hg hat
     refine hK.out _ _ ⟨(blk_cell BK357.out 0).trans rfl, (blk_cell BK357.out 1).trans rfl, (blk_cell BK357.out 2).trans rfl, (blk_cell BK357.out 3).trans rfl, (blk_cell BK357.out 4).trans rfl, (blk_cell BK363.out 0).trans rfl, (blk_cell BK363.out 1).trans rfl, (blk_cell BK363.out 2).trans rfl, (blk_cell BK363.out 3).trans rfl, (blk_cell BK363.out 4).trans rfl⟩ (fun hHeld => ?_)
     clear hK K
     refine norm_ (a' := ?_) ?_ ?_
     rotate_left
     ·show Act.put _ (some 61) _ = _
      simp only [Act.put, sI_, s0_, sS_, i64_w, i32_w]
      rfl
     refine pu_ 17 8 (w_ 18 262143) rfl HT_ ?_
     refine done_ (done_of HT_.out (by kernel_rfl)) ?_
     try go_wp2
     go_roundg k2
     case measure => have := HJ4.out; have := HK2.out; omega
     case rel => exact ⟨(y372), (wrap64 (x10_2 + 1)), sd_, H', ⟨by have := HJ4.out; have := HK2.out; omega⟩, ⟨by (with_reducible repeat (first | apply Kd.R_alloc | apply Kd.R_drewN | apply Kd.R_drew)); exact Kd.R_mono HO374.out (fun _ hk => trivial)⟩, ⟨rr_ HO_9⟩, ⟨bs2_ HB GE357 GE363⟩⟩
end
section
mutual
def cohousingref05_Scale.j0 : Nat → List (S51) → Bool → Int → Int → Option ((List (S51)) × Int)
 | 0, _, _, _, _ => none
 | k + 1, x0, x24, x376000, x376001 => if x24 = true then (some (([] : List (S51)), 1)) else (cohousingref05_Scale.l0 k x0 ([] : List (S51)) 0 x376000 x376001)
def cohousingref05_Scale.l0 : Nat → List (S51) → List (S51) → Int → Int → Int → Option ((List (S51)) × Int)
 | 0, _, _, _, _, _ => none
 | k + 1, x0, x8, x9, x376000, x376001 => if x9 < (x0.length : Int) then (if x9 > 0 then (if x376000 = 0 then (cohousingref05_Scale.l0 k x0 x8 (wrap64 (x9 + 1)) x376000 x376001) else (if 0 ≤ (wrap64 (x9 - 1)) then (if (wrap64 (x9 - 1)) < (x0.length : Int) then (if 0 ≤ x9 then ((cohousingref05_continues.f k ((rd_T51 x0 (wrap64 (x9 - 1))).f0) ((rd_T51 x0 (wrap64 (x9 - 1))).f1.f0) ((rd_T51 x0 (wrap64 (x9 - 1))).f1.f1) ((rd_T51 x0 (wrap64 (x9 - 1))).f2.f0) ((rd_T51 x0 (wrap64 (x9 - 1))).f2.f1) ((rd_T51 x0 x9).f0) ((rd_T51 x0 x9).f1.f0) ((rd_T51 x0 x9).f1.f1) ((rd_T51 x0 x9).f2.f0) ((rd_T51 x0 x9).f2.f1)).bind fun t380 => (if t380 = true then (cohousingref05_Scale.l0 k x0 x8 (wrap64 (x9 + 1)) x376000 x376001) else (cohousingref05_Scale.j2 k x0 x8 x9 x376000 x376001))) else (none)) else (none)) else (none))) else (cohousingref05_Scale.j2 k x0 x8 x9 x376000 x376001)) else (some (x8, 0))
def cohousingref05_Scale.j2 : Nat → List (S51) → List (S51) → Int → Int → Int → Option ((List (S51)) × Int)
 | 0, _, _, _, _, _ => none
 | k + 1, x0, x8, x9, x376000, x376001 => if 0 ≤ x9 then (if x9 < (x0.length : Int) then ((cohousingref05_Reduce.f k (wrap64 (((rd_T51 x0 x9).f1.f0) * x376000)) (wrap64 (((rd_T51 x0 x9).f1.f1) * x376001))).bind fun bt383 => ((cohousingref05_Reduce.f k (wrap64 (((rd_T51 x0 x9).f2.f0) * x376000)) (wrap64 (((rd_T51 x0 x9).f2.f1) * x376001))).bind fun bt388 => (if x8.length < 3518437208883 then ((cohousingref05_Valid.f k (([(⟨0, (⟨bt383.1, bt383.2⟩ : S24), (⟨bt388.1, bt388.2⟩ : S24)⟩ : S51)] : List (S51)))).bind fun t399 => (if t399 = true then (cohousingref05_Scale.l0 k x0 (x8 ++ [(⟨(rd_T51 x0 x9).f0, (⟨bt383.1, bt383.2⟩ : S24), (⟨bt388.1, bt388.2⟩ : S24)⟩ : S51)]) (wrap64 (x9 + 1)) x376000 x376001) else (some (([] : List (S51)), 3)))) else (none)))) else (none)) else (none)
end
def cohousingref05_Scale.f (k : Nat) (l0 : List (S51)) (a1_0 : Int) (a1_1 : Int) : Option ((List (S51)) × Int) := (cohousingref05_Valid.f k l0).bind fun t376 => ((cohousingref01_Valid.f k a1_0 a1_1).bind fun t377 => (if t376 = true then (cohousingref05_Scale.j0 k l0 (!t377) a1_0 a1_1) else (cohousingref05_Scale.j0 k l0 true a1_0 a1_1)))
def cohousingref05_Scale.T10 : Bool × List (List Nat × List Nat) := (true, [([], []), ([0], [0]), ([1], [1]), ([2], [2]), ([3], [3]), ([3], [3]), ([5, 3], [3, 5]), ([4, 6, 3], [3, 4, 6]), ([7, 3], [3, 7]), ([3], [3]), ([3], [3]), ([9, 10, 3], [3, 9, 10]), ([11, 3], [3, 11]), ([8, 12, 3, 3], [3, 8, 12]), ([3, 13], [3, 13]), ([14, 13, 0, 1, 2, 3, 4, 5, 6, 7, 8, 9, 10, 11, 12, 13, 14], [14])])
def cohousingref05_Scale.B10 : List Nat := [0, 1, 3, 7, 15, 15, 47, 127, 255, 15, 15, 1551, 3599, 8191, 16383, 32767]
theorem cohousingref05_Scale.tab10 : rtab .any (opsOf Try.f20 10) = cohousingref05_Scale.T10 := by kernel_rfl
theorem cohousingref05_Scale.bits10 : waitsOk cohousingref05_Scale.T10.2 cohousingref05_Scale.B10 = true := by kernel_rfl
def cohousingref05_Scale.T12 : Bool × List (List Nat × List Nat) := (true, [([], []), ([], []), ([0, 1], [0, 1]), ([2], [2]), ([3], [3]), ([4], [4]), ([], []), ([6], [6]), ([5, 7], [5, 7]), ([], []), ([], []), ([9, 10], [9, 10]), ([11], [11]), ([12], [12]), ([13], [13]), ([], []), ([15], [15]), ([14, 16], [14, 16]), ([8, 17], [8, 17]), ([], []), ([19, 18, 18, 0, 1, 2, 3, 4, 5, 6, 7, 8, 9, 10, 11, 12, 13, 14, 15, 16, 17, 18, 19], [18, 19])])
def cohousingref05_Scale.B12 : List Nat := [0, 0, 3, 7, 15, 31, 0, 64, 255, 0, 0, 1536, 3584, 7680, 15872, 0, 32768, 130560, 262143, 0, 1048575]
theorem cohousingref05_Scale.tab12 : rtab .any (opsOf Try.f20 12) = cohousingref05_Scale.T12 := by kernel_rfl
theorem cohousingref05_Scale.bits12 : waitsOk cohousingref05_Scale.T12.2 cohousingref05_Scale.B12 = true := by kernel_rfl
def cohousingref05_Scale.T13 : Bool × List (List Nat × List Nat) := (true, [([], []), ([], []), ([0, 1], [0, 1]), ([2], [2]), ([3], [3]), ([4], [4]), ([], []), ([6], [6]), ([5, 7], [5, 7]), ([], []), ([], []), ([9, 10], [9, 10]), ([11], [11]), ([12], [12]), ([13], [13]), ([], []), ([15], [15]), ([14, 16], [14, 16]), ([8, 17], [8, 17]), ([], []), ([19, 18, 18, 0, 1, 2, 3, 4, 5, 6, 7, 8, 9, 10, 11, 12, 13, 14, 15, 16, 17, 18, 19], [18, 19])])
def cohousingref05_Scale.B13 : List Nat := [0, 0, 3, 7, 15, 31, 0, 64, 255, 0, 0, 1536, 3584, 7680, 15872, 0, 32768, 130560, 262143, 0, 1048575]
theorem cohousingref05_Scale.tab13 : rtab .any (opsOf Try.f20 13) = cohousingref05_Scale.T13 := by kernel_rfl
theorem cohousingref05_Scale.bits13 : waitsOk cohousingref05_Scale.T13.2 cohousingref05_Scale.B13 = true := by kernel_rfl
def cohousingref05_Scale.T14 : Bool × List (List Nat × List Nat) := (true, [([], []), ([], []), ([], []), ([1, 2], [1, 2]), ([3], [3]), ([4], [4]), ([], []), ([], []), ([5, 6, 7], [5, 6, 7]), ([8], [8]), ([0, 9], [0, 9]), ([10, 10, 0, 1, 2, 3, 4, 5, 6, 7, 8, 9, 10], [0, 10])])
def cohousingref05_Scale.B14 : List Nat := [0, 0, 0, 6, 14, 30, 0, 0, 254, 510, 1023, 2047]
theorem cohousingref05_Scale.tab14 : rtab .any (opsOf Try.f20 14) = cohousingref05_Scale.T14 := by kernel_rfl
theorem cohousingref05_Scale.bits14 : waitsOk cohousingref05_Scale.T14.2 cohousingref05_Scale.B14 = true := by kernel_rfl
theorem cohousingref05_Scale.calls (k : Nat) (A0 : Option Addr) (c0 : Nat) (l0 : List (S51)) (a1_0 : Int) (a1_1 : Int) (r1 : List (S51)) (r2 : Int) (w : World) (hr0 : Kd.C k51 w A0 l0.length l0) (hc0 : l0.length ≤ c0) (h : cohousingref05_Scale.f k l0 a1_0 a1_1 = some (r1, r2)) :
  Calls Try.prog 20 #[.slice A0 l0.length c0, .agg #[.int .i64 a1_0, .int .i64 a1_1]] w fun e w' => ∃ v0_ : Value, e = .returned (.tuple #[v0_, .int .i64 r2]) ∧ Kd.R k51 51 w' w.heap.size (fun _ => True) v0_ r1 ∧ Below w.heap.size w w' := by
 have hu24 := Try.underlying24
 have hu51 := Try.underlying51
 have HR0 := mk_ hr0
 have HC0 := mk_ hc0
 clear hr0 hc0
 have HB := mk_ (Below.refl w.heap.size w)
 have H : ((cohousingref05_Valid.f k l0).bind fun t376 => ((cohousingref01_Valid.f k a1_0 a1_1).bind fun t377 => (if t376 = true then (cohousingref05_Scale.j0 k l0 (!t377) a1_0 a1_1) else (cohousingref05_Scale.j0 k l0 true a1_0 a1_1)))) = some (r1, r2) := h
 clear h
 replace H := Option.bind_eq_some_iff.mp H
 obtain ⟨t376, A30, H⟩ := H
 replace H : ((cohousingref01_Valid.f k a1_0 a1_1).bind fun t377 => (if t376 = true then (cohousingref05_Scale.j0 k l0 (!t377) a1_0 a1_1) else (cohousingref05_Scale.j0 k l0 true a1_0 a1_1))) = some (r1, r2) := H
 have A3 := mk_ A30
 clear A30
 replace H := Option.bind_eq_some_iff.mp H
 obtain ⟨t377, A40, H⟩ := H
 replace H : (if t376 = true then (cohousingref05_Scale.j0 k l0 (!t377) a1_0 a1_1) else (cohousingref05_Scale.j0 k l0 true a1_0 a1_1)) = some (r1, r2) := H
 have A4 := mk_ A40
 clear A40
 have HC5 := mk_ H
 clear H
 go_enter Try.func20, Try.ntmps20
 go_upto_region 3 with (first | ((with_reducible refine gate_dst (N := 3) rfl ?_); refine box_event ?hg (N := 3) ?hd (cs := #[.int .i64 a1_0, .int .i64 a1_1]) (t := 24) ?hr ?_; (case hd => rfl); (case hg => rfl); (case hr => first | (go_simp; done) | (go_simp; rfl)); intro gb375 hg w6 hbox hb; have BK375 := mk_ (hbox); have GW375 := mk_ (bz_ hg (bb_ HB)); have GE375 := mk_ (bz_ hg (bb_ HB)); replace HB := mk_ (below_step (bb_ HB) hb); clear hb hbox hg) | ((with_reducible refine gate_callee (f := 15) rfl ?_); refine gl_ (some 16) Try.func15 #[.slice A0 l0.length c0] ?_; (with_reducible refine (cohousingref05_Valid.calls k _ _ l0 t376 _ ?side1 ?side2 A3.out).mono ?_); (case side1 => exact cc_ ((Kd.C_below HR0.out HB.out))); (case side2 => exact HC0.out); rintro e w7 ⟨rfl, hb⟩; refine ⟨_, rfl, ?_⟩; replace BK375 := mk_ (blk_below (kk_ BK375) hb); replace HB := mk_ (below_step (bs_ HB GE375.out) hb); (try clear hb); have hcz8_0 := bc0_ BK375.out; have hcz8_1 := bc1_ BK375.out; have hfz8_0 := blk_frozen BK375.out 0; have hfz8_1 := blk_frozen BK375.out 1) | ((with_reducible refine gate_callee (f := 30) rfl ?_); refine gl_ (some 18) Try.func30 #[.agg #[.int .i64 a1_0, .int .i64 a1_1]] ?_; (with_reducible refine (cohousingref01_Valid.calls k a1_0 a1_1 t377 _ A4.out).mono ?_); rintro e w9 ⟨rfl, hb⟩; refine ⟨_, rfl, ?_⟩; replace BK375 := mk_ (blk_below (kk_ BK375) hb); replace HB := mk_ (below_step (bs_ HB GE375.out) hb); (try clear hb)))
 (try simp only [Act.put, sI_, s0_, sS_])
 go_cut [24] (fun v24 wc => ∃ (kq : Nat) (x24_4 : Bool), v24 = .bool x24_4 ∧ Aside0 (cohousingref05_Scale.j0 kq l0 x24_4 a1_0 a1_1 = some (r1, r2)) ∧ Aside0 (kq ≤ k) ∧ Aside0 (wc.heap[gb375]? = some (.cells #[.int .i64 a1_0, .int .i64 a1_1] 24 (0, 0))) ∧ Aside0 (Below w.heap.size w wc))
 case first =>
  have H := HC5.out
  clear HC5
  by_cases c10 : t376 = true
  ·subst c10
   have H1 : (cohousingref05_Scale.j0 k l0 (!t377) a1_0 a1_1) = some (r1, r2) := by rw [if_pos rfl] at H; exact H
   clear H
   have H := H1
   clear H1
   have H' := mk_ H
   clear H
   go_wp2
   go_meet
   case rel => exact ⟨_, (!t377), sd_, H', ⟨by first | omega | exact Nat.le_refl _⟩, ⟨kk_ BK375⟩, ⟨bs1_ HB GE375⟩⟩
  replace c10 := Bool.eq_false_iff.mpr c10
  subst c10
  have H1 : (cohousingref05_Scale.j0 k l0 true a1_0 a1_1) = some (r1, r2) := by rw [if_neg (show ¬ (false = true) by decide)] at H; exact H
  clear H
  have H := H1
  clear H1
  have H' := mk_ H
  clear H
  go_wp2
  go_meet
  case rel => exact ⟨_, (true), sd_, H', ⟨by first | omega | exact Nat.le_refl _⟩, ⟨kk_ BK375⟩, ⟨bs1_ HB GE375⟩⟩
 case rest =>
  clear HC5
  obtain ⟨kq, x24_4, rfl, HA, HJ4, BK375, HB⟩ := hcut
  cases kq with
  | zero => exact absurd HA.out (by simp [cohousingref05_Scale.j0])
  | succ kj4 =>
   have H := HA.out
   clear HA
   simp only [cohousingref05_Scale.j0] at H
   by_cases c11 : x24_4 = true
   ·subst c11
    have H1 : (some (([] : List (S51)), 1)) = some (r1, r2) := by rw [if_pos rfl] at H; exact H
    clear H
    have H := H1
    clear H1
    simp only [Option.some.injEq, Prod.mk.injEq] at H
    obtain ⟨rfl, rfl⟩ := H
    go_wp2
    go_ret2
    exact ⟨_, ew_, by first | exact Kd.R_nil _ _ _ _ _ | exact Kd.N_nil _ _ _ _ _ | exact Kd.V_nil _ _ _ _ _ | exact Kd.Q_nil _ _ _ _ _ | exact Kd.S_nil _ _ _ _ _, bs1_ HB GE375⟩
   replace c11 := Bool.eq_false_iff.mpr c11
   subst c11
   have H1 : (cohousingref05_Scale.l0 kj4 l0 ([] : List (S51)) 0 a1_0 a1_1) = some (r1, r2) := by rw [if_neg (show ¬ (false = true) by decide)] at H; exact H
   clear H
   have H := H1
   clear H1
   have H' := mk_ H
   clear H
   go_wp2
   go_loopg [8, 9] kj4 (fun kq v8 v9 w' => ∃ (x8_2 : List (S51)) (x9_2 : Int), v9 = .int .i64 x9_2 ∧ Aside0 (cohousingref05_Scale.l0 kq l0 x8_2 x9_2 a1_0 a1_1 = some (r1, r2)) ∧ Aside0 (kq ≤ kj4) ∧ Aside0 (Kd.R k51 51 w' w.heap.size (fun _ => True) v8 x8_2) ∧ Aside0 (w'.heap[gb375]? = some (.cells #[.int .i64 a1_0, .int .i64 a1_1] 24 (0, 0))) ∧ Aside0 (Below w.heap.size w w'))
   case atStart => exact ⟨(([] : List (S51))), (0), sd_, H', ⟨Nat.le_refl _⟩, ⟨by first | exact Kd.R_nil _ _ _ _ _ | exact Kd.N_nil _ _ _ _ _ | exact Kd.V_nil _ _ _ _ _ | exact Kd.Q_nil _ _ _ _ _ | exact Kd.S_nil _ _ _ _ _⟩, ⟨kk_ BK375⟩, ⟨bs1_ HB GE375⟩⟩
   case round =>
    clear H'
    obtain ⟨x8_2, x9_2, rfl, HA, HK2, HO_8, BK375, HB⟩ := hrel
    cases gk with
    | zero => exact absurd HA.out (by simp [cohousingref05_Scale.l0])
    | succ k2 =>
     have H := HA.out
     clear HA
     simp only [cohousingref05_Scale.l0] at H
     by_cases c12 : x9_2 < (l0.length : Int)
     rotate_left
     ·rw [if_neg c12] at H
      have c12b0 : decide (x9_2 < (l0.length : Int)) = false := decide_eq_false c12
      clear c12
      simp only [Option.some.injEq, Prod.mk.injEq] at H
      obtain ⟨rfl, rfl⟩ := H
      go_wp2
      go_ret2
      exact ⟨_, ew_, rr_ HO_8, bs1_ HB GE375⟩
     rw [if_pos c12] at H
     have c12b0 : decide (x9_2 < (l0.length : Int)) = true := decide_eq_true c12
     clear c12
     have HC13 := mk_ H
     clear H
     go_upto_if 32 with (fail)
     go_cut [] (fun wc => ∃ (kq : Nat), Aside0 (cohousingref05_Scale.j2 kq l0 x8_2 x9_2 a1_0 a1_1 = some (r1, r2)) ∧ Aside0 (kq ≤ k2) ∧ Aside0 (Kd.R k51 51 wc w.heap.size (fun _ => True) u8 x8_2) ∧ Aside0 (wc.heap[gb375]? = some (.cells #[.int .i64 a1_0, .int .i64 a1_1] 24 (0, 0))) ∧ Aside0 (Below w.heap.size w wc))
     case first =>
      have H := HC13.out
      clear HC13
      by_cases c14 : x9_2 > 0
      rotate_left
      ·rw [if_neg c14] at H
       have c14b0 : decide (0 < x9_2) = false := decide_eq_false c14
       clear c14
       (first | rw [c14b0] | (simp only [i64_w, i32_w]; rw [c14b0]) | skip)
       have H' := mk_ H
       clear H
       go_wp2
       go_meet
       case rel => exact ⟨_, H', ⟨by have := HJ4.out; have := HK2.out; first | omega | exact Nat.le_refl _⟩, ⟨rr_ HO_8⟩, ⟨kk_ BK375⟩, ⟨bs1_ HB GE375⟩⟩
      rw [if_pos c14] at H
      have c14b0 : decide (0 < x9_2) = true := decide_eq_true c14
      clear c14
      (first | rw [c14b0] | (simp only [i64_w, i32_w]; rw [c14b0]) | skip)
      by_cases c15 : a1_0 = 0
      ·rw [if_pos c15] at H
       have c15b0 : (a1_0 == 0) = true := beq_iff_eq.mpr c15
       have c15b1 : (a1_0 != 0) = false := bne_eq_false_iff_eq.mpr c15
       clear c15
       have H' := mk_ H
       clear H
       try go_wp2
       replace HO_8 := mk_ (Kd.R_drew HO_8.out)
       replace BK375 := mk_ (blk_drew BK375.out)
       replace HB := mk_ (below_drew1 HB.out)
       refine start_ (n := 16) (S := fun w' => w'.cell? ⟨gb375, 0, none⟩ = some (.int .i64 a1_0) ∧ w'.cell? ⟨gb375, 1, none⟩ = some (.int .i64 a1_1)) (ds := []) #[n_, n_, n_, n_, n_, n_, n_, n_, n_, n_, n_, n_, n_, n_, n_, n_] (by kernel_rfl) rfl rfl ⟨(blk_cell BK375.out 0).trans rfl, (blk_cell BK375.out 1).trans rfl⟩ (fun hHeld => ?_); refine with_tabW cohousingref05_Scale.tab10 cohousingref05_Scale.bits10 (fun HT_ HW_ => ?_)
       generalize wr.drew = w16 at HO_8 BK375 HB hHeld ⊢
       refine pu_ 0 33 (w_ 16 1) rfl HT_ ?_
       refine ta_ 1 34 (w_ 16 3) rfl HT_ HW_ hHeld (by rintro w' ⟨s0, s1⟩; go_simp; with_reducible rfl) ?_
       refine pu_ 2 35 (w_ 16 7) rfl HT_ ?_
       refine pu_ 3 36 (w_ 16 15) rfl HT_ ?_
       refine pn_ 4 37 (w_ 16 31) rfl HT_ ?_
       refine pn_ 5 38 (w_ 16 63) rfl HT_ ?_
       refine pn_ 6 39 (w_ 16 127) rfl HT_ ?_
       refine pn_ 7 40 (w_ 16 255) rfl HT_ ?_
       refine pn_ 8 41 (w_ 16 511) rfl HT_ ?_
       refine pn_ 9 42 (w_ 16 1023) rfl HT_ ?_
       refine pn_ 10 43 (w_ 16 2047) rfl HT_ ?_
       refine pn_ 11 44 (w_ 16 4095) rfl HT_ ?_
       refine pn_ 12 45 (w_ 16 8191) rfl HT_ ?_
       refine pn_ 13 46 (w_ 16 16383) rfl HT_ ?_
       refine pu_ 14 47 (w_ 16 32767) rfl HT_ ?_
       refine pu_ 15 10 (w_ 16 65535) rfl HT_ ?_
       refine done_ (done_of HT_.out (by kernel_rfl)) ?_
       try go_wp2
       go_roundg k2
       case measure => have := HJ4.out; have := HK2.out; omega
       case rel => exact ⟨(x8_2), (wrap64 (x9_2 + 1)), sd_, H', ⟨by have := HJ4.out; have := HK2.out; omega⟩, ⟨rr_ HO_8⟩, ⟨kk_ BK375⟩, ⟨bs1_ HB GE375⟩⟩
      rw [if_neg c15] at H
      have c15b0 : (a1_0 == 0) = false := beq_eq_false_iff_ne.mpr c15
      have c15b1 : (a1_0 != 0) = true := bne_iff_ne.mpr c15
      obtain ⟨ji17, hji17⟩ : ∃ j_ : Int, (wrap64 (x9_2 - 1)) = j_ := ⟨_, rfl⟩
      replace H : (if 0 ≤ (ji17) then (if (ji17) < (l0.length : Int) then (if 0 ≤ x9_2 then ((cohousingref05_continues.f k2 ((rd_T51 l0 (ji17)).f0) ((rd_T51 l0 (ji17)).f1.f0) ((rd_T51 l0 (ji17)).f1.f1) ((rd_T51 l0 (ji17)).f2.f0) ((rd_T51 l0 (ji17)).f2.f1) ((rd_T51 l0 x9_2).f0) ((rd_T51 l0 x9_2).f1.f0) ((rd_T51 l0 x9_2).f1.f1) ((rd_T51 l0 x9_2).f2.f0) ((rd_T51 l0 x9_2).f2.f1)).bind fun t380 => (if t380 = true then (cohousingref05_Scale.l0 k2 l0 x8_2 (wrap64 (x9_2 + 1)) a1_0 a1_1) else (cohousingref05_Scale.j2 k2 l0 x8_2 x9_2 a1_0 a1_1))) else (none)) else (none)) else (none)) = some (r1, r2) := by first | (rw [hji17] at H; exact H) | (simp only [hji17] at H ⊢; exact H)
      have hji17w : (IntKind.i64.wrap (x9_2 - 1)) = ji17 := (i64_w _).trans hji17
      by_cases c18 : 0 ≤ (ji17)
      rotate_left
      ·rw [if_neg c18] at H
       exact absurd H (by simp)
      rw [if_pos c18] at H
      have c18b0 : decide (0 ≤ (ji17)) = true := decide_eq_true c18
      clear c18
      by_cases c19 : (ji17) < (l0.length : Int)
      rotate_left
      ·rw [if_neg c19] at H
       exact absurd H (by simp)
      rw [if_pos c19] at H
      have c19b0 : decide ((ji17) < (l0.length : Int)) = true := decide_eq_true c19
      clear c19
      by_cases c20 : 0 ≤ x9_2
      rotate_left
      ·rw [if_neg c20] at H
       exact absurd H (by simp)
      rw [if_pos c20] at H
      have c20b0 : decide (0 ≤ x9_2) = true := decide_eq_true c20
      clear c20
      replace H := Option.bind_eq_some_iff.mp H
      obtain ⟨t380, A210, H⟩ := H
      replace H : (if t380 = true then (cohousingref05_Scale.l0 k2 l0 x8_2 (wrap64 (x9_2 + 1)) a1_0 a1_1) else (cohousingref05_Scale.j2 k2 l0 x8_2 x9_2 a1_0 a1_1)) = some (r1, r2) := H
      have A21 := mk_ A210
      clear A210
      have Hmc22_ := mk_ H
      clear H
      try go_wp2
      replace HO_8 := mk_ (Kd.R_drew HO_8.out)
      replace BK375 := mk_ (blk_drew BK375.out)
      replace HB := mk_ (below_drew1 HB.out)
      have p378 : 0 ≤ ((ji17) : Int) := od_
      have q378 : (ji17) < (l0.length : Int) := od_
      obtain ⟨ad378, e378, hx378_0, hx378_1, hx378_2, hx378_3, hx378_4⟩ := at_T51 HR0.out (ji17) p378 q378
      have hw378_4 := hx378_4
      have hw378_3 := hx378_3
      have hw378_2 := hx378_2
      have hw378_1 := hx378_1
      have hw378_0 := hx378_0
      cases e378
      replace hx378_0 := cb_ HB hx378_0
      replace hx378_1 := cb_ HB hx378_1
      replace hx378_2 := cb_ HB hx378_2
      replace hx378_3 := cb_ HB hx378_3
      replace hx378_4 := cb_ HB hx378_4
      replace p378 := eq_true p378
      replace q378 := eq_true q378
      have p379 : 0 ≤ (x9_2 : Int) := od_
      have q379 : x9_2 < (l0.length : Int) := od_
      obtain ⟨ad379, e379, hx379_0, hx379_1, hx379_2, hx379_3, hx379_4⟩ := at_T51 HR0.out x9_2 p379 q379
      have hw379_4 := hx379_4
      have hw379_3 := hx379_3
      have hw379_2 := hx379_2
      have hw379_1 := hx379_1
      have hw379_0 := hx379_0
      obtain rfl : ad378 = ad379 := (by injection e379)
      replace hx379_0 := cb_ HB hx379_0
      replace hx379_1 := cb_ HB hx379_1
      replace hx379_2 := cb_ HB hx379_2
      replace hx379_3 := cb_ HB hx379_3
      replace hx379_4 := cb_ HB hx379_4
      replace p379 := eq_true p379
      replace q379 := eq_true q379
      refine start_ (n := 16) (S := fun w' => w'.cell? ⟨gb375, 0, none⟩ = some (.int .i64 a1_0) ∧ w'.cell? ⟨gb375, 1, none⟩ = some (.int .i64 a1_1) ∧ w'.cell? (ad378.add (((ji17)).toNat * 5)) = some (.int .i64 ((rd_T51 l0 (ji17)).f0)) ∧ w'.cell? ⟨(ad378.add (((ji17)).toNat * 5)).block, (ad378.add (((ji17)).toNat * 5)).off + 1, none⟩ = some (.int .i64 ((rd_T51 l0 (ji17)).f1.f0)) ∧ w'.cell? ⟨(ad378.add (((ji17)).toNat * 5)).block, (ad378.add (((ji17)).toNat * 5)).off + 2, none⟩ = some (.int .i64 ((rd_T51 l0 (ji17)).f1.f1)) ∧ w'.cell? ⟨(ad378.add (((ji17)).toNat * 5)).block, (ad378.add (((ji17)).toNat * 5)).off + 3, none⟩ = some (.int .i64 ((rd_T51 l0 (ji17)).f2.f0)) ∧ w'.cell? ⟨(ad378.add (((ji17)).toNat * 5)).block, (ad378.add (((ji17)).toNat * 5)).off + 4, none⟩ = some (.int .i64 ((rd_T51 l0 (ji17)).f2.f1)) ∧ w'.cell? (ad378.add ((x9_2).toNat * 5)) = some (.int .i64 ((rd_T51 l0 x9_2).f0)) ∧ w'.cell? ⟨(ad378.add ((x9_2).toNat * 5)).block, (ad378.add ((x9_2).toNat * 5)).off + 1, none⟩ = some (.int .i64 ((rd_T51 l0 x9_2).f1.f0)) ∧ w'.cell? ⟨(ad378.add ((x9_2).toNat * 5)).block, (ad378.add ((x9_2).toNat * 5)).off + 2, none⟩ = some (.int .i64 ((rd_T51 l0 x9_2).f1.f1)) ∧ w'.cell? ⟨(ad378.add ((x9_2).toNat * 5)).block, (ad378.add ((x9_2).toNat * 5)).off + 3, none⟩ = some (.int .i64 ((rd_T51 l0 x9_2).f2.f0)) ∧ w'.cell? ⟨(ad378.add ((x9_2).toNat * 5)).block, (ad378.add ((x9_2).toNat * 5)).off + 4, none⟩ = some (.int .i64 ((rd_T51 l0 x9_2).f2.f1))) (ds := []) #[n_, n_, n_, n_, n_, n_, n_, n_, n_, n_, n_, n_, n_, n_, n_, n_] (by kernel_rfl) rfl rfl ⟨(blk_cell BK375.out 0).trans rfl, (blk_cell BK375.out 1).trans rfl, (cb_ HB hw378_0), (cb_ HB hw378_1), (cb_ HB hw378_2), (cb_ HB hw378_3), (cb_ HB hw378_4), (cb_ HB hw379_0), (cb_ HB hw379_1), (cb_ HB hw379_2), (cb_ HB hw379_3), (cb_ HB hw379_4)⟩ (fun hHeld => ?_); refine with_tabW cohousingref05_Scale.tab10 cohousingref05_Scale.bits10 (fun HT_ HW_ => ?_)
      generalize wr.drew = w23 at HO_8 BK375 HB hx378_0 hx378_1 hx378_2 hx378_3 hx378_4 hx379_0 hx379_1 hx379_2 hx379_3 hx379_4 hHeld ⊢
      refine pu_ 0 33 (w_ 16 1) rfl HT_ ?_
      refine ta_ 1 34 (w_ 16 3) rfl HT_ HW_ hHeld (by rintro w' ⟨s0, s1, s2, s3, s4, s5, s6, s7, s8, s9, s10, s11⟩; go_simp; with_reducible rfl) ?_
      refine pu_ 2 35 (w_ 16 7) rfl HT_ ?_
      refine pu_ 3 36 (w_ 16 15) rfl HT_ ?_
      refine pu_ 4 37 (w_ 16 31) rfl HT_ ?_
      refine pu_ 5 38 (w_ 16 63) rfl HT_ ?_
      refine pu_ 6 39 (w_ 16 127) rfl HT_ ?_
      refine pu_ 7 40 (w_ 16 255) rfl HT_ ?_
      refine pu_ 9 42 (w_ 16 767) rfl HT_ ?_
      refine pu_ 10 43 (w_ 16 1791) rfl HT_ ?_
      refine pu_ 11 44 (w_ 16 3839) rfl HT_ ?_
      refine ta_ 8 41 (w_ 16 4095) rfl HT_ HW_ hHeld (by rintro w' ⟨s0, s1, s2, s3, s4, s5, s6, s7, s8, s9, s10, s11⟩; go_simp; with_reducible rfl) ?_
      refine ta_ 12 45 (w_ 16 8191) rfl HT_ HW_ hHeld (by rintro w' ⟨s0, s1, s2, s3, s4, s5, s6, s7, s8, s9, s10, s11⟩; go_simp; with_reducible rfl) ?_
      refine one_ (i := 13) (N := some 46) (w_ 16 16383) rfl rfl (one_of HT_.out (by kernel_rfl)) (by decide) (fun K hK => ?_)
      refine goes_ Try.func48 (by kernel_rfl) rfl #[.agg #[.int .i64 ((rd_T51 l0 (ji17)).f0), .int .i64 ((rd_T51 l0 (ji17)).f1.f0), .int .i64 ((rd_T51 l0 (ji17)).f1.f1), .int .i64 ((rd_T51 l0 (ji17)).f2.f0), .int .i64 ((rd_T51 l0 (ji17)).f2.f1)], .agg #[.int .i64 ((rd_T51 l0 x9_2).f0), .int .i64 ((rd_T51 l0 x9_2).f1.f0), .int .i64 ((rd_T51 l0 x9_2).f1.f1), .int .i64 ((rd_T51 l0 x9_2).f2.f0), .int .i64 ((rd_T51 l0 x9_2).f2.f1)]] (by rfl) rfl rfl (by (try simp only [List.map_toArray, List.map_cons, List.map_nil]); first | done | (simp only [hji17]; rfl) | rfl | (simp only [List.length_drop, List.length_take]; rfl)) ?_
      have H := Hmc22_.out
      clear Hmc22_
      by_cases c22 : t380 = true
      rotate_left
      ·replace c22 := Bool.eq_false_iff.mpr c22
       subst c22
       have H1 : (cohousingref05_Scale.j2 k2 l0 x8_2 x9_2 a1_0 a1_1) = some (r1, r2) := by rw [if_neg (show ¬ (false = true) by decide)] at H; exact H
       clear H
       have H := H1
       clear H1
       have H' := mk_ H
       clear H
       with_reducible refine (cohousingref05_continues.calls k2 ((rd_T51 l0 (ji17)).f0) ((rd_T51 l0 (ji17)).f1.f0) ((rd_T51 l0 (ji17)).f1.f1) ((rd_T51 l0 (ji17)).f2.f0) ((rd_T51 l0 (ji17)).f2.f1) ((rd_T51 l0 x9_2).f0) ((rd_T51 l0 x9_2).f1.f0) ((rd_T51 l0 x9_2).f1.f1) ((rd_T51 l0 x9_2).f2.f0) ((rd_T51 l0 x9_2).f2.f1) false _ A21.out).mono ?_
       rintro e w26 ⟨rfl, hb⟩
       refine ⟨_, rfl, ?_⟩
       replace HO_8 := mk_ (Kd.R_below (rr_ HO_8) hb)
       replace BK375 := mk_ (blk_below (kk_ BK375) hb)
       replace HB := mk_ (below_step (bs_ HB GE375.out) hb)
       (try clear hb)
       refine hK.out _ _ ⟨(blk_cell BK375.out 0).trans rfl, (blk_cell BK375.out 1).trans rfl, (cb_ HB hw378_0), (cb_ HB hw378_1), (cb_ HB hw378_2), (cb_ HB hw378_3), (cb_ HB hw378_4), (cb_ HB hw379_0), (cb_ HB hw379_1), (cb_ HB hw379_2), (cb_ HB hw379_3), (cb_ HB hw379_4)⟩ (fun hHeld => ?_)
       clear hK K
       refine norm_ (a' := ?_) ?_ ?_
       rotate_left
       ·show Act.put _ (some 46) _ = _
        simp only [Act.put, sI_, s0_, sS_, i64_w, i32_w]
        rfl
       refine pu_ 14 47 (w_ 16 32767) rfl HT_ ?_
       refine pu_ 15 10 (w_ 16 65535) rfl HT_ ?_
       refine done_ (done_of HT_.out (by kernel_rfl)) ?_
       try go_wp2
       go_meet
       case rel => exact ⟨_, H', ⟨by have := HJ4.out; have := HK2.out; first | omega | exact Nat.le_refl _⟩, ⟨rr_ HO_8⟩, ⟨kk_ BK375⟩, ⟨bs1_ HB GE375⟩⟩
      subst c22
      have H1 : (cohousingref05_Scale.l0 k2 l0 x8_2 (wrap64 (x9_2 + 1)) a1_0 a1_1) = some (r1, r2) := by rw [if_pos rfl] at H; exact H
      clear H
      have H := H1
      clear H1
      have H' := mk_ H
      clear H
      with_reducible refine (cohousingref05_continues.calls k2 ((rd_T51 l0 (ji17)).f0) ((rd_T51 l0 (ji17)).f1.f0) ((rd_T51 l0 (ji17)).f1.f1) ((rd_T51 l0 (ji17)).f2.f0) ((rd_T51 l0 (ji17)).f2.f1) ((rd_T51 l0 x9_2).f0) ((rd_T51 l0 x9_2).f1.f0) ((rd_T51 l0 x9_2).f1.f1) ((rd_T51 l0 x9_2).f2.f0) ((rd_T51 l0 x9_2).f2.f1) true _ A21.out).mono ?_
      rintro e w24 ⟨rfl, hb⟩
      refine ⟨_, rfl, ?_⟩
      replace HO_8 := mk_ (Kd.R_below (rr_ HO_8) hb)
      replace BK375 := mk_ (blk_below (kk_ BK375) hb)
      replace HB := mk_ (below_step (bs_ HB GE375.out) hb)
      (try clear hb)
      refine hK.out _ _ ⟨(blk_cell BK375.out 0).trans rfl, (blk_cell BK375.out 1).trans rfl, (cb_ HB hw378_0), (cb_ HB hw378_1), (cb_ HB hw378_2), (cb_ HB hw378_3), (cb_ HB hw378_4), (cb_ HB hw379_0), (cb_ HB hw379_1), (cb_ HB hw379_2), (cb_ HB hw379_3), (cb_ HB hw379_4)⟩ (fun hHeld => ?_)
      clear hK K
      refine norm_ (a' := ?_) ?_ ?_
      rotate_left
      ·show Act.put _ (some 46) _ = _
       simp only [Act.put, sI_, s0_, sS_, i64_w, i32_w]
       rfl
      refine pu_ 14 47 (w_ 16 32767) rfl HT_ ?_
      refine pu_ 15 10 (w_ 16 65535) rfl HT_ ?_
      refine done_ (done_of HT_.out (by kernel_rfl)) ?_
      try go_wp2
      go_roundg k2
      case measure => have := HJ4.out; have := HK2.out; omega
      case rel => exact ⟨(x8_2), (wrap64 (x9_2 + 1)), sd_, H', ⟨by have := HJ4.out; have := HK2.out; omega⟩, ⟨rr_ HO_8⟩, ⟨kk_ BK375⟩, ⟨bs1_ HB GE375⟩⟩
     case rest =>
      clear HC13
      obtain ⟨kq, HA, HJ12, HO_8, BK375, HB⟩ := hcut
      cases kq with
      | zero => exact absurd HA.out (by simp [cohousingref05_Scale.j2])
      | succ kj12 =>
       have H := HA.out
       clear HA
       simp only [cohousingref05_Scale.j2] at H
       by_cases c27 : 0 ≤ x9_2
       rotate_left
       ·rw [if_neg c27] at H
        exact absurd H (by simp)
       rw [if_pos c27] at H
       have c27b0 : decide (0 ≤ x9_2) = true := decide_eq_true c27
       clear c27
       by_cases c28 : x9_2 < (l0.length : Int)
       rotate_left
       ·rw [if_neg c28] at H
        exact absurd H (by simp)
       rw [if_pos c28] at H
       have c28b0 : decide (x9_2 < (l0.length : Int)) = true := decide_eq_true c28
       clear c28
       replace H := Option.bind_eq_some_iff.mp H
       obtain ⟨⟨t383, t384⟩, A290, H⟩ := H
       replace H : ((cohousingref05_Reduce.f kj12 (wrap64 (((rd_T51 l0 x9_2).f2.f0) * a1_0)) (wrap64 (((rd_T51 l0 x9_2).f2.f1) * a1_1))).bind fun bt388 => (if x8_2.length < 3518437208883 then ((cohousingref05_Valid.f kj12 (([(⟨0, (⟨t383, t384⟩ : S24), (⟨bt388.1, bt388.2⟩ : S24)⟩ : S51)] : List (S51)))).bind fun t399 => (if t399 = true then (cohousingref05_Scale.l0 kj12 l0 (x8_2 ++ [(⟨(rd_T51 l0 x9_2).f0, (⟨t383, t384⟩ : S24), (⟨bt388.1, bt388.2⟩ : S24)⟩ : S51)]) (wrap64 (x9_2 + 1)) a1_0 a1_1) else (some (([] : List (S51)), 3)))) else (none))) = some (r1, r2) := H
       have A29 := mk_ A290
       clear A290
       replace H := Option.bind_eq_some_iff.mp H
       obtain ⟨⟨t388, t389⟩, A300, H⟩ := H
       replace H : (if x8_2.length < 3518437208883 then ((cohousingref05_Valid.f kj12 (([(⟨0, (⟨t383, t384⟩ : S24), (⟨t388, t389⟩ : S24)⟩ : S51)] : List (S51)))).bind fun t399 => (if t399 = true then (cohousingref05_Scale.l0 kj12 l0 (x8_2 ++ [(⟨(rd_T51 l0 x9_2).f0, (⟨t383, t384⟩ : S24), (⟨t388, t389⟩ : S24)⟩ : S51)]) (wrap64 (x9_2 + 1)) a1_0 a1_1) else (some (([] : List (S51)), 3)))) else (none)) = some (r1, r2) := H
       have A30 := mk_ A300
       clear A300
       by_cases c31 : x8_2.length < 3518437208883
       rotate_left
       ·rw [if_neg c31] at H
        exact absurd H (by simp)
       rw [if_pos c31] at H
       have LMc31 := mk_ c31
       clear c31
       obtain ⟨y392, hy392⟩ : ∃ y_ : List (S51), y_ = (x8_2 ++ [(⟨(rd_T51 l0 x9_2).f0, (⟨t383, t384⟩ : S24), (⟨t388, t389⟩ : S24)⟩ : S51)]) := ⟨_, rfl⟩
       replace H : ((cohousingref05_Valid.f kj12 (([(⟨0, (⟨t383, t384⟩ : S24), (⟨t388, t389⟩ : S24)⟩ : S51)] : List (S51)))).bind fun t399 => (if t399 = true then (cohousingref05_Scale.l0 kj12 l0 y392 (wrap64 (x9_2 + 1)) a1_0 a1_1) else (some (([] : List (S51)), 3)))) = some (r1, r2) := by first | (rw [hy392]; with_reducible exact H) | (have H2_ := (Option.bind_some _ _).symm.trans H; rw [hy392]; with_reducible exact H2_) | (have H2_ := (Option.bind_some _ _).symm.trans H; with_reducible exact H2_) | with_reducible exact H | (rw [hy392]; exact H) | exact H
       have Ny392 := mk_ hy392
       clear hy392
       obtain ⟨y396, hy396⟩ : ∃ y_ : List (S51), y_ = (([(⟨0, (⟨t383, t384⟩ : S24), (⟨t388, t389⟩ : S24)⟩ : S51)] : List (S51))) := ⟨_, rfl⟩
       replace H : ((cohousingref05_Valid.f kj12 y396).bind fun t399 => (if t399 = true then (cohousingref05_Scale.l0 kj12 l0 y392 (wrap64 (x9_2 + 1)) a1_0 a1_1) else (some (([] : List (S51)), 3)))) = some (r1, r2) := by first | (rw [hy396]; with_reducible exact H) | (have H2_ := (Option.bind_some _ _).symm.trans H; rw [hy396]; with_reducible exact H2_) | (have H2_ := (Option.bind_some _ _).symm.trans H; with_reducible exact H2_) | with_reducible exact H | (rw [hy396]; exact H) | exact H
       have Ny396 := mk_ hy396
       clear hy396
       replace H := Option.bind_eq_some_iff.mp H
       obtain ⟨t399, A320, H⟩ := H
       replace H : (if t399 = true then (cohousingref05_Scale.l0 kj12 l0 y392 (wrap64 (x9_2 + 1)) a1_0 a1_1) else (some (([] : List (S51)), 3))) = some (r1, r2) := H
       have A32 := mk_ A320
       clear A320
       have Hmc33_ := mk_ H
       clear H
       try go_wp2
       replace HO_8 := mk_ (Kd.R_drew HO_8.out)
       replace BK375 := mk_ (blk_drew BK375.out)
       replace HB := mk_ (below_drew1 HB.out)
       have p381 : 0 ≤ (x9_2 : Int) := od_
       have q381 : x9_2 < (l0.length : Int) := od_
       obtain ⟨ad381, e381, hx381_0, hx381_1, hx381_2, hx381_3, hx381_4⟩ := at_T51 HR0.out x9_2 p381 q381
       have hw381_4 := hx381_4
       have hw381_3 := hx381_3
       have hw381_2 := hx381_2
       have hw381_1 := hx381_1
       have hw381_0 := hx381_0
       cases e381
       replace hx381_0 := cb_ HB hx381_0
       replace hx381_1 := cb_ HB hx381_1
       replace hx381_2 := cb_ HB hx381_2
       replace hx381_3 := cb_ HB hx381_3
       replace hx381_4 := cb_ HB hx381_4
       replace p381 := eq_true p381
       replace q381 := eq_true q381
       have p382 : 0 ≤ (x9_2 : Int) := od_
       have q382 : x9_2 < (l0.length : Int) := od_
       obtain ⟨ad382, e382, hx382_0, hx382_1, hx382_2, hx382_3, hx382_4⟩ := at_T51 HR0.out x9_2 p382 q382
       have hw382_4 := hx382_4
       have hw382_3 := hx382_3
       have hw382_2 := hx382_2
       have hw382_1 := hx382_1
       have hw382_0 := hx382_0
       obtain rfl : ad381 = ad382 := (by injection e382)
       replace hx382_0 := cb_ HB hx382_0
       replace hx382_1 := cb_ HB hx382_1
       replace hx382_2 := cb_ HB hx382_2
       replace hx382_3 := cb_ HB hx382_3
       replace hx382_4 := cb_ HB hx382_4
       replace p382 := eq_true p382
       replace q382 := eq_true q382
       refine start_ (n := 21) (S := fun w' => w'.cell? ⟨gb375, 0, none⟩ = some (.int .i64 a1_0) ∧ w'.cell? ⟨gb375, 1, none⟩ = some (.int .i64 a1_1) ∧ w'.cell? (ad381.add ((x9_2).toNat * 5)) = some (.int .i64 ((rd_T51 l0 x9_2).f0)) ∧ w'.cell? ⟨(ad381.add ((x9_2).toNat * 5)).block, (ad381.add ((x9_2).toNat * 5)).off + 1, none⟩ = some (.int .i64 ((rd_T51 l0 x9_2).f1.f0)) ∧ w'.cell? ⟨(ad381.add ((x9_2).toNat * 5)).block, (ad381.add ((x9_2).toNat * 5)).off + 2, none⟩ = some (.int .i64 ((rd_T51 l0 x9_2).f1.f1)) ∧ w'.cell? ⟨(ad381.add ((x9_2).toNat * 5)).block, (ad381.add ((x9_2).toNat * 5)).off + 3, none⟩ = some (.int .i64 ((rd_T51 l0 x9_2).f2.f0)) ∧ w'.cell? ⟨(ad381.add ((x9_2).toNat * 5)).block, (ad381.add ((x9_2).toNat * 5)).off + 4, none⟩ = some (.int .i64 ((rd_T51 l0 x9_2).f2.f1)) ∧ w'.cell? (ad381.add ((x9_2).toNat * 5)) = some (.int .i64 ((rd_T51 l0 x9_2).f0)) ∧ w'.cell? ⟨(ad381.add ((x9_2).toNat * 5)).block, (ad381.add ((x9_2).toNat * 5)).off + 1, none⟩ = some (.int .i64 ((rd_T51 l0 x9_2).f1.f0)) ∧ w'.cell? ⟨(ad381.add ((x9_2).toNat * 5)).block, (ad381.add ((x9_2).toNat * 5)).off + 2, none⟩ = some (.int .i64 ((rd_T51 l0 x9_2).f1.f1)) ∧ w'.cell? ⟨(ad381.add ((x9_2).toNat * 5)).block, (ad381.add ((x9_2).toNat * 5)).off + 3, none⟩ = some (.int .i64 ((rd_T51 l0 x9_2).f2.f0)) ∧ w'.cell? ⟨(ad381.add ((x9_2).toNat * 5)).block, (ad381.add ((x9_2).toNat * 5)).off + 4, none⟩ = some (.int .i64 ((rd_T51 l0 x9_2).f2.f1))) (ds := []) #[n_, n_, n_, n_, n_, n_, n_, n_, n_, n_, n_, n_, n_, n_, n_, n_, n_, n_, n_, n_, n_] (by kernel_rfl) rfl rfl ⟨(blk_cell BK375.out 0).trans rfl, (blk_cell BK375.out 1).trans rfl, (cb_ HB hw381_0), (cb_ HB hw381_1), (cb_ HB hw381_2), (cb_ HB hw381_3), (cb_ HB hw381_4), (cb_ HB hw382_0), (cb_ HB hw382_1), (cb_ HB hw382_2), (cb_ HB hw382_3), (cb_ HB hw382_4)⟩ (fun hHeld => ?_); refine with_tabW cohousingref05_Scale.tab12 cohousingref05_Scale.bits12 (fun HT_ HW_ => ?_)
       generalize wc.drew = w34 at HO_8 BK375 HB hx381_0 hx381_1 hx381_2 hx381_3 hx381_4 hx382_0 hx382_1 hx382_2 hx382_3 hx382_4 hHeld ⊢
       refine pu_ 0 49 (w_ 21 1) rfl HT_ ?_
       refine pu_ 1 50 (w_ 21 3) rfl HT_ ?_
       refine pu_ 2 51 (w_ 21 7) rfl HT_ ?_
       refine pu_ 3 52 (w_ 21 15) rfl HT_ ?_
       refine pu_ 4 53 (w_ 21 31) rfl HT_ ?_
       refine pu_ 6 55 (w_ 21 95) rfl HT_ ?_
       refine pu_ 9 58 (w_ 21 607) rfl HT_ ?_
       refine pu_ 10 59 (w_ 21 1631) rfl HT_ ?_
       refine pu_ 11 60 (w_ 21 3679) rfl HT_ ?_
       refine pu_ 12 61 (w_ 21 7775) rfl HT_ ?_
       refine pu_ 13 62 (w_ 21 15967) rfl HT_ ?_
       refine pu_ 15 64 (w_ 21 48735) rfl HT_ ?_
       refine ta_ 5 54 (w_ 21 48767) rfl HT_ HW_ hHeld (by rintro w' ⟨s0, s1, s2, s3, s4, s5, s6, s7, s8, s9, s10, s11⟩; go_simp; with_reducible rfl) ?_
       refine ta_ 7 56 (w_ 21 48895) rfl HT_ HW_ hHeld (by rintro w' ⟨s0, s1, s2, s3, s4, s5, s6, s7, s8, s9, s10, s11⟩; go_simp; with_reducible rfl) ?_
       refine pu_ 8 57 (w_ 21 49151) rfl HT_ ?_
       refine ta_ 14 63 (w_ 21 65535) rfl HT_ HW_ hHeld (by rintro w' ⟨s0, s1, s2, s3, s4, s5, s6, s7, s8, s9, s10, s11⟩; go_simp; with_reducible rfl) ?_
       refine ta_ 16 65 (w_ 21 131071) rfl HT_ HW_ hHeld (by rintro w' ⟨s0, s1, s2, s3, s4, s5, s6, s7, s8, s9, s10, s11⟩; go_simp; with_reducible rfl) ?_
       refine pu_ 17 66 (w_ 21 262143) rfl HT_ ?_
       refine join_ (σ := Nat) 1 #[y_, y_, y_, y_, y_, y_, y_, y_, y_, y_, y_, y_, y_, y_, y_, y_, y_, y_, y_, y_, n_] (fun s_ => [(67, .agg #[.int .i64 t383, .int .i64 t384]), (11, .pointer (some ⟨s_, 0, none⟩))]) (fun s_ w' => (w'.cell? ⟨gb375, 0, none⟩ = some (.int .i64 a1_0) ∧ w'.cell? ⟨gb375, 1, none⟩ = some (.int .i64 a1_1) ∧ w'.cell? (ad381.add ((x9_2).toNat * 5)) = some (.int .i64 ((rd_T51 l0 x9_2).f0)) ∧ w'.cell? ⟨(ad381.add ((x9_2).toNat * 5)).block, (ad381.add ((x9_2).toNat * 5)).off + 1, none⟩ = some (.int .i64 ((rd_T51 l0 x9_2).f1.f0)) ∧ w'.cell? ⟨(ad381.add ((x9_2).toNat * 5)).block, (ad381.add ((x9_2).toNat * 5)).off + 2, none⟩ = some (.int .i64 ((rd_T51 l0 x9_2).f1.f1)) ∧ w'.cell? ⟨(ad381.add ((x9_2).toNat * 5)).block, (ad381.add ((x9_2).toNat * 5)).off + 3, none⟩ = some (.int .i64 ((rd_T51 l0 x9_2).f2.f0)) ∧ w'.cell? ⟨(ad381.add ((x9_2).toNat * 5)).block, (ad381.add ((x9_2).toNat * 5)).off + 4, none⟩ = some (.int .i64 ((rd_T51 l0 x9_2).f2.f1)) ∧ w'.cell? (ad381.add ((x9_2).toNat * 5)) = some (.int .i64 ((rd_T51 l0 x9_2).f0)) ∧ w'.cell? ⟨(ad381.add ((x9_2).toNat * 5)).block, (ad381.add ((x9_2).toNat * 5)).off + 1, none⟩ = some (.int .i64 ((rd_T51 l0 x9_2).f1.f0)) ∧ w'.cell? ⟨(ad381.add ((x9_2).toNat * 5)).block, (ad381.add ((x9_2).toNat * 5)).off + 2, none⟩ = some (.int .i64 ((rd_T51 l0 x9_2).f1.f1)) ∧ w'.cell? ⟨(ad381.add ((x9_2).toNat * 5)).block, (ad381.add ((x9_2).toNat * 5)).off + 3, none⟩ = some (.int .i64 ((rd_T51 l0 x9_2).f2.f0)) ∧ w'.cell? ⟨(ad381.add ((x9_2).toNat * 5)).block, (ad381.add ((x9_2).toNat * 5)).off + 4, none⟩ = some (.int .i64 ((rd_T51 l0 x9_2).f2.f1))) ∧ (Kd.R k51 51 w' w.heap.size (fun _ => True) u8 x8_2) ∧ (w'.heap[gb375]? = some (.cells #[.int .i64 a1_0, .int .i64 a1_1] 24 (0, 0))) ∧ (w'.heap[s_]? = some (.cells #[.int .i64 0, .int .i64 0] 24 (0, 0))) ∧ (w.heap.size ≤ s_) ∧ (w.heap.size ≤ s_) ∧ (gb375 ≠ s_) ∧ (s_ ≠ gb375) ∧ (Below w.heap.size w w')) ?_ ?_
       rotate_left
       ·intro hCont
        refine two_ (i := 18) (j := 19) (Ni := some 67) (Nj := some 11) #[y_, y_, y_, y_, y_, y_, y_, y_, y_, y_, y_, y_, y_, y_, y_, y_, y_, y_, y_, n_, n_] #[y_, y_, y_, y_, y_, y_, y_, y_, y_, y_, y_, y_, y_, y_, y_, y_, y_, y_, n_, y_, n_] rfl rfl rfl rfl (two_of HT_.out (by kernel_rfl)) (by decide) (by decide) (fun K hK => ?_) (fun K hK => ?_)
        ·skip
         refine goes_ Try.func32 (by kernel_rfl) rfl #[.int .i64 (wrap64 (((rd_T51 l0 x9_2).f1.f0) * a1_0)), .int .i64 (wrap64 (((rd_T51 l0 x9_2).f1.f1) * a1_1))] (by rfl) rfl rfl (by (try simp only [List.map_toArray, List.map_cons, List.map_nil]); first | done | rfl | (simp only [List.length_drop, List.length_take]; rfl)) ?_
         with_reducible refine (cohousingref05_Reduce.calls kj12 (wrap64 (((rd_T51 l0 x9_2).f1.f0) * a1_0)) (wrap64 (((rd_T51 l0 x9_2).f1.f1) * a1_1)) t383 t384 _ A29.out).mono ?_
         rintro e w35 ⟨rfl, hb⟩
         refine ⟨_, rfl, ?_⟩
         replace HO_8 := mk_ (Kd.R_below (rr_ HO_8) hb)
         replace BK375 := mk_ (blk_below (kk_ BK375) hb)
         replace HB := mk_ (below_step (bs_ HB GE375.out) hb)
         (try clear hb)
         refine hK.out _ _ ⟨(blk_cell BK375.out 0).trans rfl, (blk_cell BK375.out 1).trans rfl, (cb_ HB hw381_0), (cb_ HB hw381_1), (cb_ HB hw381_2), (cb_ HB hw381_3), (cb_ HB hw381_4), (cb_ HB hw382_0), (cb_ HB hw382_1), (cb_ HB hw382_2), (cb_ HB hw382_3), (cb_ HB hw382_4)⟩ (fun hHeld => ?_)
         clear hK K
         refine norm_ (a' := ?_) ?_ ?_
         rotate_left
         ·show Act.put _ (some 67) _ = _
          simp only [Act.put, sI_, s0_, sS_, i64_w, i32_w]
          rfl
         refine one_ (i := 19) (N := some 11) (w_ 21 1048575) rfl rfl (one_of HT_.out (by kernel_rfl)) (by decide) (fun K hK => ?_)
         refine box_step ?hg (N := 11) ?hd (cs := #[.int .i64 0, .int .i64 0]) (t := 24) ?hr ?_; (case hd => rfl); (case hg => rfl); (case hr => first | (go_simp; done) | (go_simp; rfl))
         intro gb385 hg w36 hbox hb
         replace HO_8 := mk_ (Kd.R_below (rr_ HO_8) hb)
         have BK385 := mk_ (hbox)
         have GW385 := mk_ (bz_ hg (bs_ HB GE375.out))
         have GE385 := mk_ (bz_ hg (bs_ HB GE375.out))
         replace HB := mk_ (below_step (bs_ HB GE375.out) hb)
         have NB375_385 := mk_ (bl_ hg (kk_ BK375))
         have NB385_375 := mk_ (bg_ hg (kk_ BK375))
         replace BK375 := mk_ (blk_below (kk_ BK375) hb)
         clear hb hbox hg
         refine hK.out _ _ ⟨(blk_cell BK375.out 0).trans rfl, (blk_cell BK375.out 1).trans rfl, (cb_ HB hw381_0), (cb_ HB hw381_1), (cb_ HB hw381_2), (cb_ HB hw381_3), (cb_ HB hw381_4), (cb_ HB hw382_0), (cb_ HB hw382_1), (cb_ HB hw382_2), (cb_ HB hw382_3), (cb_ HB hw382_4)⟩ (fun hHeld => ?_)
         clear hK K
         refine norm_ (a' := ?_) ?_ ?_
         rotate_left
         ·show Act.put _ (some 11) _ = _
          simp only [Act.put, sI_, s0_, sS_, i64_w, i32_w]
          rfl
         exact norm_ (by simp only [putAll, Act.put, sI_, s0_, sS_]) (hCont (gb385) _ ⟨hHeld, (rr_ HO_8), (kk_ BK375), (kk_ BK385), GW385.out, GE385.out, NB375_385.out, NB385_375.out, (bs2_ HB GE375 GE385)⟩)
        ·skip
         refine box_step ?hg (N := 11) ?hd (cs := #[.int .i64 0, .int .i64 0]) (t := 24) ?hr ?_; (case hd => rfl); (case hg => rfl); (case hr => first | (go_simp; done) | (go_simp; rfl))
         intro gb385 hg w35 hbox hb
         replace HO_8 := mk_ (Kd.R_below (rr_ HO_8) hb)
         have BK385 := mk_ (hbox)
         have GW385 := mk_ (bz_ hg (bs_ HB GE375.out))
         have GE385 := mk_ (bz_ hg (bs_ HB GE375.out))
         replace HB := mk_ (below_step (bs_ HB GE375.out) hb)
         have NB375_385 := mk_ (bl_ hg (kk_ BK375))
         have NB385_375 := mk_ (bg_ hg (kk_ BK375))
         replace BK375 := mk_ (blk_below (kk_ BK375) hb)
         clear hb hbox hg
         refine hK.out _ _ ⟨(blk_cell BK375.out 0).trans rfl, (blk_cell BK375.out 1).trans rfl, (cb_ HB hw381_0), (cb_ HB hw381_1), (cb_ HB hw381_2), (cb_ HB hw381_3), (cb_ HB hw381_4), (cb_ HB hw382_0), (cb_ HB hw382_1), (cb_ HB hw382_2), (cb_ HB hw382_3), (cb_ HB hw382_4)⟩ (fun hHeld => ?_)
         clear hK K
         refine norm_ (a' := ?_) ?_ ?_
         rotate_left
         ·show Act.put _ (some 11) _ = _
          simp only [Act.put, sI_, s0_, sS_, i64_w, i32_w]
          rfl
         refine one_ (i := 18) (N := some 67) (w_ 21 1048575) rfl rfl (one_of HT_.out (by kernel_rfl)) (by decide) (fun K hK => ?_)
         refine goes_ Try.func32 (by kernel_rfl) rfl #[.int .i64 (wrap64 (((rd_T51 l0 x9_2).f1.f0) * a1_0)), .int .i64 (wrap64 (((rd_T51 l0 x9_2).f1.f1) * a1_1))] (by rfl) rfl rfl (by (try simp only [List.map_toArray, List.map_cons, List.map_nil]); first | done | rfl | (simp only [List.length_drop, List.length_take]; rfl)) ?_
         with_reducible refine (cohousingref05_Reduce.calls kj12 (wrap64 (((rd_T51 l0 x9_2).f1.f0) * a1_0)) (wrap64 (((rd_T51 l0 x9_2).f1.f1) * a1_1)) t383 t384 _ A29.out).mono ?_
         rintro e w36 ⟨rfl, hb⟩
         refine ⟨_, rfl, ?_⟩
         replace HO_8 := mk_ (Kd.R_below (rr_ HO_8) hb)
         replace BK375 := mk_ (blk_below (kk_ BK375) hb)
         replace BK385 := mk_ (blk_below (kk_ BK385) hb)
         replace HB := mk_ (below_step (bs2_ HB GE375 GE385) hb)
         (try clear hb)
         refine hK.out _ _ ⟨(blk_cell BK375.out 0).trans rfl, (blk_cell BK375.out 1).trans rfl, (cb_ HB hw381_0), (cb_ HB hw381_1), (cb_ HB hw381_2), (cb_ HB hw381_3), (cb_ HB hw381_4), (cb_ HB hw382_0), (cb_ HB hw382_1), (cb_ HB hw382_2), (cb_ HB hw382_3), (cb_ HB hw382_4)⟩ (fun hHeld => ?_)
         clear hK K
         refine norm_ (a' := ?_) ?_ ?_
         rotate_left
         ·show Act.put _ (some 67) _ = _
          simp only [Act.put, sI_, s0_, sS_, i64_w, i32_w]
          rfl
         exact norm_ (by simp only [putAll, Act.put, sI_, s0_, sS_]) (hCont (gb385) _ ⟨hHeld, (rr_ HO_8), (kk_ BK375), (kk_ BK385), GW385.out, GE385.out, NB375_385.out, NB385_375.out, (bs2_ HB GE375 GE385)⟩)
       rintro gb385 w37 ⟨hS_, h0_, h1_, h2_, h3_, h4_, h5_, h6_, h7_⟩
       have n0_ : Aside0 (Kd.R k51 51 w37 w.heap.size (fun _ => True) u8 x8_2) := ⟨h0_⟩
       have n1_ : Aside0 (w37.heap[gb375]? = some (.cells #[.int .i64 a1_0, .int .i64 a1_1] 24 (0, 0))) := ⟨h1_⟩
       have n2_ : Aside0 (w37.heap[gb385]? = some (.cells #[.int .i64 0, .int .i64 0] 24 (0, 0))) := ⟨h2_⟩
       have n3_ : Aside0 (w.heap.size ≤ gb385) := ⟨h3_⟩
       have n4_ : Aside0 (w.heap.size ≤ gb385) := ⟨h4_⟩
       have n5_ : Aside0 (gb375 ≠ gb385) := ⟨h5_⟩
       have n6_ : Aside0 (gb385 ≠ gb375) := ⟨h6_⟩
       have n7_ : Aside0 (Below w.heap.size w w37) := ⟨h7_⟩
       clear HO_8
       clear BK375
       clear HB
       clear h0_ h1_ h2_ h3_ h4_ h5_ h6_ h7_
       have HO_8 := n0_
       have BK375 := n1_
       have BK385 := n2_
       have GW385 := n3_
       have GE385 := n4_
       have NB375_385 := n5_
       have NB385_375 := n6_
       have HB := n7_
       clear n0_ n1_ n2_ n3_ n4_ n5_ n6_ n7_
       have hHeld : w37.cell? ⟨gb375, 0, none⟩ = some (.int .i64 a1_0) ∧ w37.cell? ⟨gb375, 1, none⟩ = some (.int .i64 a1_1) ∧ w37.cell? (ad381.add ((x9_2).toNat * 5)) = some (.int .i64 ((rd_T51 l0 x9_2).f0)) ∧ w37.cell? ⟨(ad381.add ((x9_2).toNat * 5)).block, (ad381.add ((x9_2).toNat * 5)).off + 1, none⟩ = some (.int .i64 ((rd_T51 l0 x9_2).f1.f0)) ∧ w37.cell? ⟨(ad381.add ((x9_2).toNat * 5)).block, (ad381.add ((x9_2).toNat * 5)).off + 2, none⟩ = some (.int .i64 ((rd_T51 l0 x9_2).f1.f1)) ∧ w37.cell? ⟨(ad381.add ((x9_2).toNat * 5)).block, (ad381.add ((x9_2).toNat * 5)).off + 3, none⟩ = some (.int .i64 ((rd_T51 l0 x9_2).f2.f0)) ∧ w37.cell? ⟨(ad381.add ((x9_2).toNat * 5)).block, (ad381.add ((x9_2).toNat * 5)).off + 4, none⟩ = some (.int .i64 ((rd_T51 l0 x9_2).f2.f1)) ∧ w37.cell? (ad381.add ((x9_2).toNat * 5)) = some (.int .i64 ((rd_T51 l0 x9_2).f0)) ∧ w37.cell? ⟨(ad381.add ((x9_2).toNat * 5)).block, (ad381.add ((x9_2).toNat * 5)).off + 1, none⟩ = some (.int .i64 ((rd_T51 l0 x9_2).f1.f0)) ∧ w37.cell? ⟨(ad381.add ((x9_2).toNat * 5)).block, (ad381.add ((x9_2).toNat * 5)).off + 2, none⟩ = some (.int .i64 ((rd_T51 l0 x9_2).f1.f1)) ∧ w37.cell? ⟨(ad381.add ((x9_2).toNat * 5)).block, (ad381.add ((x9_2).toNat * 5)).off + 3, none⟩ = some (.int .i64 ((rd_T51 l0 x9_2).f2.f0)) ∧ w37.cell? ⟨(ad381.add ((x9_2).toNat * 5)).block, (ad381.add ((x9_2).toNat * 5)).off + 4, none⟩ = some (.int .i64 ((rd_T51 l0 x9_2).f2.f1)) := hS_
       refine norm_ (a' := ?_) ?_ ?_
       rotate_left
       ·simp only [putAll, Act.put, sI_, s0_, sS_]
        rfl
       refine one_ (i := 20) (N := none) (w_ 21 2097151) rfl rfl (one_of HT_.out (by kernel_rfl)) (by decide) (fun K hK => ?_)
       have hs38 : w37.cell? ⟨gb385, 0, none⟩ = some (.int .i64 0) := (blk_cell BK385.out 0).trans rfl
       have hfs38 := blk_frozen BK385.out 0
       have hns38_0 := NB375_385.out
       have hms38_0 := NB385_375.out
       have hs39 : w37.cell? ⟨gb385, 1, none⟩ = some (.int .i64 0) := (blk_cell BK385.out 1).trans rfl
       have hfs39 := blk_frozen BK385.out 1
       have hns39_0 := NB375_385.out
       have hms39_0 := NB385_375.out
       refine skip_ (w1 := ?_) (by rfl) rfl ?_ ?_
       rotate_left
       ·go_simp
        rfl
       refine hK.out _ _ ⟨((cell_far (p := ⟨gb385, _, none⟩) NB375_385.out _).trans (((cell_far (p := ⟨gb385, _, none⟩) NB375_385.out _).trans (hHeld.1)))), ((cell_far (p := ⟨gb385, _, none⟩) NB375_385.out _).trans (((cell_far (p := ⟨gb385, _, none⟩) NB375_385.out _).trans (hHeld.2.1)))), ((cell_far (p := ⟨gb385, _, none⟩) (nf_ hw381_0 GW385) _).trans (((cell_far (p := ⟨gb385, _, none⟩) (nf_ hw381_0 GW385) _).trans (hHeld.2.2.1)))), ((cell_far (p := ⟨gb385, _, none⟩) (nf_ hw381_1 GW385) _).trans (((cell_far (p := ⟨gb385, _, none⟩) (nf_ hw381_1 GW385) _).trans (hHeld.2.2.2.1)))), ((cell_far (p := ⟨gb385, _, none⟩) (nf_ hw381_2 GW385) _).trans (((cell_far (p := ⟨gb385, _, none⟩) (nf_ hw381_2 GW385) _).trans (hHeld.2.2.2.2.1)))), ((cell_far (p := ⟨gb385, _, none⟩) (nf_ hw381_3 GW385) _).trans (((cell_far (p := ⟨gb385, _, none⟩) (nf_ hw381_3 GW385) _).trans (hHeld.2.2.2.2.2.1)))), ((cell_far (p := ⟨gb385, _, none⟩) (nf_ hw381_4 GW385) _).trans (((cell_far (p := ⟨gb385, _, none⟩) (nf_ hw381_4 GW385) _).trans (hHeld.2.2.2.2.2.2.1)))), ((cell_far (p := ⟨gb385, _, none⟩) (nf_ hw382_0 GW385) _).trans (((cell_far (p := ⟨gb385, _, none⟩) (nf_ hw382_0 GW385) _).trans (hHeld.2.2.2.2.2.2.2.1)))), ((cell_far (p := ⟨gb385, _, none⟩) (nf_ hw382_1 GW385) _).trans (((cell_far (p := ⟨gb385, _, none⟩) (nf_ hw382_1 GW385) _).trans (hHeld.2.2.2.2.2.2.2.2.1)))), ((cell_far (p := ⟨gb385, _, none⟩) (nf_ hw382_2 GW385) _).trans (((cell_far (p := ⟨gb385, _, none⟩) (nf_ hw382_2 GW385) _).trans (hHeld.2.2.2.2.2.2.2.2.2.1)))), ((cell_far (p := ⟨gb385, _, none⟩) (nf_ hw382_3 GW385) _).trans (((cell_far (p := ⟨gb385, _, none⟩) (nf_ hw382_3 GW385) _).trans (hHeld.2.2.2.2.2.2.2.2.2.2.1)))), ((cell_far (p := ⟨gb385, _, none⟩) (nf_ hw382_4 GW385) _).trans (((cell_far (p := ⟨gb385, _, none⟩) (nf_ hw382_4 GW385) _).trans (hHeld.2.2.2.2.2.2.2.2.2.2.2))))⟩ (fun hHeld => ?_)
       clear hK K
       refine done_ (done_of HT_.out (by kernel_rfl)) ?_
       try go_wp2
       have n0_ : Aside0 (Kd.R k51 51 ((w37.setCell ⟨gb385, 0, none⟩ (.int .i64 t383)).setCell ⟨gb385, 1, none⟩ (.int .i64 t384)) w.heap.size (fun _ => True) u8 x8_2) := ⟨by (with_reducible repeat (first | apply Kd.R_alloc | apply Kd.R_drewN | apply Kd.R_drew)); exact Kd.R_mono (Kd.R_far (p := ⟨gb385, 1, none⟩) (Kd.R_far (p := ⟨gb385, 0, none⟩) (Kd.R_types HO_8.out BK385.out (by decide)) (fun _ hk => hk.2) (.int .i64 t383)) (fun _ hk => hk.2) (.int .i64 t384)) (fun _ hk => trivial)⟩
       have n1_ : Aside0 (((w37.setCell ⟨gb385, 0, none⟩ (.int .i64 t383)).setCell ⟨gb385, 1, none⟩ (.int .i64 t384)).heap[gb375]? = some (.cells #[.int .i64 a1_0, .int .i64 a1_1] 24 (0, 0))) := ⟨by (with_reducible repeat (first | refine blk_drewN ?_ _ | refine blk_drew ?_ | refine blk_alloc ?_ _)); refine blk_far ?_ NB375_385.out _; (with_reducible repeat (first | refine blk_drewN ?_ _ | refine blk_drew ?_ | refine blk_alloc ?_ _)); refine blk_far ?_ NB375_385.out _; (with_reducible repeat (first | refine blk_drewN ?_ _ | refine blk_drew ?_ | refine blk_alloc ?_ _)); exact BK375.out⟩
       have n2_ : Aside0 (((w37.setCell ⟨gb385, 0, none⟩ (.int .i64 t383)).setCell ⟨gb385, 1, none⟩ (.int .i64 t384)).heap[gb385]? = some (.cells #[.int .i64 t383, .int .i64 t384] 24 (0, 0))) := ⟨by (with_reducible repeat (first | refine blk_drewN ?_ _ | refine blk_drew ?_ | refine blk_alloc ?_ _)); refine blk_put (cs := #[.int .i64 t383, .int .i64 0]) ?_ 1 _ rfl; (with_reducible repeat (first | refine blk_drewN ?_ _ | refine blk_drew ?_ | refine blk_alloc ?_ _)); refine blk_put (cs := #[.int .i64 0, .int .i64 0]) ?_ 0 _ rfl; (with_reducible repeat (first | refine blk_drewN ?_ _ | refine blk_drew ?_ | refine blk_alloc ?_ _)); exact BK385.out⟩
       have n3_ : Aside0 (Below w.heap.size w ((w37.setCell ⟨gb385, 0, none⟩ (.int .i64 t383)).setCell ⟨gb385, 1, none⟩ (.int .i64 t384))) := ⟨bs2_ HB GE375 GE385⟩
       (try clear HO_8)
       (try clear BK375)
       (try clear BK385)
       (try clear HB)
       generalize ((w37.setCell ⟨gb385, 0, none⟩ (.int .i64 t383)).setCell ⟨gb385, 1, none⟩ (.int .i64 t384)) = w40 at n0_ n1_ n2_ n3_ ⊢
       have HO_8 := n0_
       have BK375 := n1_
       have BK385 := n2_
       have HB := n3_
       clear n0_ n1_ n2_ n3_
       replace HO_8 := mk_ (Kd.R_drew HO_8.out)
       replace BK375 := mk_ (blk_drew BK375.out)
       replace BK385 := mk_ (blk_drew BK385.out)
       replace HB := mk_ (below_drew1 HB.out)
       have p386 : 0 ≤ (x9_2 : Int) := od_
       have q386 : x9_2 < (l0.length : Int) := od_
       obtain ⟨ad386, e386, hx386_0, hx386_1, hx386_2, hx386_3, hx386_4⟩ := at_T51 HR0.out x9_2 p386 q386
       have hw386_4 := hx386_4
       have hw386_3 := hx386_3
       have hw386_2 := hx386_2
       have hw386_1 := hx386_1
       have hw386_0 := hx386_0
       obtain rfl : ad381 = ad386 := (by injection e386)
       replace hx386_0 := cb_ HB hx386_0
       replace hx386_1 := cb_ HB hx386_1
       replace hx386_2 := cb_ HB hx386_2
       replace hx386_3 := cb_ HB hx386_3
       replace hx386_4 := cb_ HB hx386_4
       replace p386 := eq_true p386
       replace q386 := eq_true q386
       have p387 : 0 ≤ (x9_2 : Int) := od_
       have q387 : x9_2 < (l0.length : Int) := od_
       obtain ⟨ad387, e387, hx387_0, hx387_1, hx387_2, hx387_3, hx387_4⟩ := at_T51 HR0.out x9_2 p387 q387
       have hw387_4 := hx387_4
       have hw387_3 := hx387_3
       have hw387_2 := hx387_2
       have hw387_1 := hx387_1
       have hw387_0 := hx387_0
       obtain rfl : ad381 = ad387 := (by injection e387)
       replace hx387_0 := cb_ HB hx387_0
       replace hx387_1 := cb_ HB hx387_1
       replace hx387_2 := cb_ HB hx387_2
       replace hx387_3 := cb_ HB hx387_3
       replace hx387_4 := cb_ HB hx387_4
       replace p387 := eq_true p387
       replace q387 := eq_true q387
       refine start_ (n := 21) (S := fun w' => w'.cell? ⟨gb375, 0, none⟩ = some (.int .i64 a1_0) ∧ w'.cell? ⟨gb375, 1, none⟩ = some (.int .i64 a1_1) ∧ w'.cell? (ad381.add ((x9_2).toNat * 5)) = some (.int .i64 ((rd_T51 l0 x9_2).f0)) ∧ w'.cell? ⟨(ad381.add ((x9_2).toNat * 5)).block, (ad381.add ((x9_2).toNat * 5)).off + 1, none⟩ = some (.int .i64 ((rd_T51 l0 x9_2).f1.f0)) ∧ w'.cell? ⟨(ad381.add ((x9_2).toNat * 5)).block, (ad381.add ((x9_2).toNat * 5)).off + 2, none⟩ = some (.int .i64 ((rd_T51 l0 x9_2).f1.f1)) ∧ w'.cell? ⟨(ad381.add ((x9_2).toNat * 5)).block, (ad381.add ((x9_2).toNat * 5)).off + 3, none⟩ = some (.int .i64 ((rd_T51 l0 x9_2).f2.f0)) ∧ w'.cell? ⟨(ad381.add ((x9_2).toNat * 5)).block, (ad381.add ((x9_2).toNat * 5)).off + 4, none⟩ = some (.int .i64 ((rd_T51 l0 x9_2).f2.f1)) ∧ w'.cell? (ad381.add ((x9_2).toNat * 5)) = some (.int .i64 ((rd_T51 l0 x9_2).f0)) ∧ w'.cell? ⟨(ad381.add ((x9_2).toNat * 5)).block, (ad381.add ((x9_2).toNat * 5)).off + 1, none⟩ = some (.int .i64 ((rd_T51 l0 x9_2).f1.f0)) ∧ w'.cell? ⟨(ad381.add ((x9_2).toNat * 5)).block, (ad381.add ((x9_2).toNat * 5)).off + 2, none⟩ = some (.int .i64 ((rd_T51 l0 x9_2).f1.f1)) ∧ w'.cell? ⟨(ad381.add ((x9_2).toNat * 5)).block, (ad381.add ((x9_2).toNat * 5)).off + 3, none⟩ = some (.int .i64 ((rd_T51 l0 x9_2).f2.f0)) ∧ w'.cell? ⟨(ad381.add ((x9_2).toNat * 5)).block, (ad381.add ((x9_2).toNat * 5)).off + 4, none⟩ = some (.int .i64 ((rd_T51 l0 x9_2).f2.f1))) (ds := []) #[n_, n_, n_, n_, n_, n_, n_, n_, n_, n_, n_, n_, n_, n_, n_, n_, n_, n_, n_, n_, n_] (by kernel_rfl) rfl rfl ⟨(blk_cell BK375.out 0).trans rfl, (blk_cell BK375.out 1).trans rfl, (cb_ HB hw386_0), (cb_ HB hw386_1), (cb_ HB hw386_2), (cb_ HB hw386_3), (cb_ HB hw386_4), (cb_ HB hw387_0), (cb_ HB hw387_1), (cb_ HB hw387_2), (cb_ HB hw387_3), (cb_ HB hw387_4)⟩ (fun hHeld => ?_); refine with_tabW cohousingref05_Scale.tab13 cohousingref05_Scale.bits13 (fun HT_ HW_ => ?_)
       generalize w40.drew = w41 at HO_8 BK375 BK385 HB hx386_0 hx386_1 hx386_2 hx386_3 hx386_4 hx387_0 hx387_1 hx387_2 hx387_3 hx387_4 hHeld ⊢
       refine pu_ 0 68 (w_ 21 1) rfl HT_ ?_
       refine pu_ 1 69 (w_ 21 3) rfl HT_ ?_
       refine pu_ 2 70 (w_ 21 7) rfl HT_ ?_
       refine pu_ 3 71 (w_ 21 15) rfl HT_ ?_
       refine pu_ 4 72 (w_ 21 31) rfl HT_ ?_
       refine pu_ 6 74 (w_ 21 95) rfl HT_ ?_
       refine pu_ 9 77 (w_ 21 607) rfl HT_ ?_
       refine pu_ 10 78 (w_ 21 1631) rfl HT_ ?_
       refine pu_ 11 79 (w_ 21 3679) rfl HT_ ?_
       refine pu_ 12 80 (w_ 21 7775) rfl HT_ ?_
       refine pu_ 13 81 (w_ 21 15967) rfl HT_ ?_
       refine pu_ 15 83 (w_ 21 48735) rfl HT_ ?_
       refine ta_ 5 73 (w_ 21 48767) rfl HT_ HW_ hHeld (by rintro w' ⟨s0, s1, s2, s3, s4, s5, s6, s7, s8, s9, s10, s11⟩; go_simp; with_reducible rfl) ?_
       refine ta_ 7 75 (w_ 21 48895) rfl HT_ HW_ hHeld (by rintro w' ⟨s0, s1, s2, s3, s4, s5, s6, s7, s8, s9, s10, s11⟩; go_simp; with_reducible rfl) ?_
       refine pu_ 8 76 (w_ 21 49151) rfl HT_ ?_
       refine ta_ 14 82 (w_ 21 65535) rfl HT_ HW_ hHeld (by rintro w' ⟨s0, s1, s2, s3, s4, s5, s6, s7, s8, s9, s10, s11⟩; go_simp; with_reducible rfl) ?_
       refine ta_ 16 84 (w_ 21 131071) rfl HT_ HW_ hHeld (by rintro w' ⟨s0, s1, s2, s3, s4, s5, s6, s7, s8, s9, s10, s11⟩; go_simp; with_reducible rfl) ?_
       refine pu_ 17 85 (w_ 21 262143) rfl HT_ ?_
       refine join_ (σ := Nat) 1 #[y_, y_, y_, y_, y_, y_, y_, y_, y_, y_, y_, y_, y_, y_, y_, y_, y_, y_, y_, y_, n_] (fun s_ => [(86, .agg #[.int .i64 t388, .int .i64 t389]), (12, .pointer (some ⟨s_, 0, none⟩))]) (fun s_ w' => (w'.cell? ⟨gb375, 0, none⟩ = some (.int .i64 a1_0) ∧ w'.cell? ⟨gb375, 1, none⟩ = some (.int .i64 a1_1) ∧ w'.cell? (ad381.add ((x9_2).toNat * 5)) = some (.int .i64 ((rd_T51 l0 x9_2).f0)) ∧ w'.cell? ⟨(ad381.add ((x9_2).toNat * 5)).block, (ad381.add ((x9_2).toNat * 5)).off + 1, none⟩ = some (.int .i64 ((rd_T51 l0 x9_2).f1.f0)) ∧ w'.cell? ⟨(ad381.add ((x9_2).toNat * 5)).block, (ad381.add ((x9_2).toNat * 5)).off + 2, none⟩ = some (.int .i64 ((rd_T51 l0 x9_2).f1.f1)) ∧ w'.cell? ⟨(ad381.add ((x9_2).toNat * 5)).block, (ad381.add ((x9_2).toNat * 5)).off + 3, none⟩ = some (.int .i64 ((rd_T51 l0 x9_2).f2.f0)) ∧ w'.cell? ⟨(ad381.add ((x9_2).toNat * 5)).block, (ad381.add ((x9_2).toNat * 5)).off + 4, none⟩ = some (.int .i64 ((rd_T51 l0 x9_2).f2.f1)) ∧ w'.cell? (ad381.add ((x9_2).toNat * 5)) = some (.int .i64 ((rd_T51 l0 x9_2).f0)) ∧ w'.cell? ⟨(ad381.add ((x9_2).toNat * 5)).block, (ad381.add ((x9_2).toNat * 5)).off + 1, none⟩ = some (.int .i64 ((rd_T51 l0 x9_2).f1.f0)) ∧ w'.cell? ⟨(ad381.add ((x9_2).toNat * 5)).block, (ad381.add ((x9_2).toNat * 5)).off + 2, none⟩ = some (.int .i64 ((rd_T51 l0 x9_2).f1.f1)) ∧ w'.cell? ⟨(ad381.add ((x9_2).toNat * 5)).block, (ad381.add ((x9_2).toNat * 5)).off + 3, none⟩ = some (.int .i64 ((rd_T51 l0 x9_2).f2.f0)) ∧ w'.cell? ⟨(ad381.add ((x9_2).toNat * 5)).block, (ad381.add ((x9_2).toNat * 5)).off + 4, none⟩ = some (.int .i64 ((rd_T51 l0 x9_2).f2.f1))) ∧ (Kd.R k51 51 w' w.heap.size (fun _ => True) u8 x8_2) ∧ (w'.heap[gb375]? = some (.cells #[.int .i64 a1_0, .int .i64 a1_1] 24 (0, 0))) ∧ (w'.heap[gb385]? = some (.cells #[.int .i64 t383, .int .i64 t384] 24 (0, 0))) ∧ (w'.heap[s_]? = some (.cells #[.int .i64 0, .int .i64 0] 24 (0, 0))) ∧ (w.heap.size ≤ s_) ∧ (w.heap.size ≤ s_) ∧ (gb375 ≠ s_) ∧ (s_ ≠ gb375) ∧ (gb385 ≠ s_) ∧ (s_ ≠ gb385) ∧ (Below w.heap.size w w')) ?_ ?_
       rotate_left
       ·intro hCont
        refine two_ (i := 18) (j := 19) (Ni := some 86) (Nj := some 12) #[y_, y_, y_, y_, y_, y_, y_, y_, y_, y_, y_, y_, y_, y_, y_, y_, y_, y_, y_, n_, n_] #[y_, y_, y_, y_, y_, y_, y_, y_, y_, y_, y_, y_, y_, y_, y_, y_, y_, y_, n_, y_, n_] rfl rfl rfl rfl (two_of HT_.out (by kernel_rfl)) (by decide) (by decide) (fun K hK => ?_) (fun K hK => ?_)
        ·skip
         refine goes_ Try.func32 (by kernel_rfl) rfl #[.int .i64 (wrap64 (((rd_T51 l0 x9_2).f2.f0) * a1_0)), .int .i64 (wrap64 (((rd_T51 l0 x9_2).f2.f1) * a1_1))] (by rfl) rfl rfl (by (try simp only [List.map_toArray, List.map_cons, List.map_nil]); first | done | rfl | (simp only [List.length_drop, List.length_take]; rfl)) ?_
         with_reducible refine (cohousingref05_Reduce.calls kj12 (wrap64 (((rd_T51 l0 x9_2).f2.f0) * a1_0)) (wrap64 (((rd_T51 l0 x9_2).f2.f1) * a1_1)) t388 t389 _ A30.out).mono ?_
         rintro e w42 ⟨rfl, hb⟩
         refine ⟨_, rfl, ?_⟩
         replace HO_8 := mk_ (Kd.R_below (rr_ HO_8) hb)
         replace BK375 := mk_ (blk_below (kk_ BK375) hb)
         replace BK385 := mk_ (blk_below (kk_ BK385) hb)
         replace HB := mk_ (below_step (bs2_ HB GE375 GE385) hb)
         (try clear hb)
         refine hK.out _ _ ⟨(blk_cell BK375.out 0).trans rfl, (blk_cell BK375.out 1).trans rfl, (cb_ HB hw386_0), (cb_ HB hw386_1), (cb_ HB hw386_2), (cb_ HB hw386_3), (cb_ HB hw386_4), (cb_ HB hw387_0), (cb_ HB hw387_1), (cb_ HB hw387_2), (cb_ HB hw387_3), (cb_ HB hw387_4)⟩ (fun hHeld => ?_)
         clear hK K
         refine norm_ (a' := ?_) ?_ ?_
         rotate_left
         ·show Act.put _ (some 86) _ = _
          simp only [Act.put, sI_, s0_, sS_, i64_w, i32_w]
          rfl
         refine one_ (i := 19) (N := some 12) (w_ 21 1048575) rfl rfl (one_of HT_.out (by kernel_rfl)) (by decide) (fun K hK => ?_)
         refine box_step ?hg (N := 12) ?hd (cs := #[.int .i64 0, .int .i64 0]) (t := 24) ?hr ?_; (case hd => rfl); (case hg => rfl); (case hr => first | (go_simp; done) | (go_simp; rfl))
         intro gb390 hg w43 hbox hb
         replace HO_8 := mk_ (Kd.R_below (rr_ HO_8) hb)
         have BK390 := mk_ (hbox)
         have GW390 := mk_ (bz_ hg (bs2_ HB GE375 GE385))
         have GE390 := mk_ (bz_ hg (bs2_ HB GE375 GE385))
         replace HB := mk_ (below_step (bs2_ HB GE375 GE385) hb)
         have NB375_390 := mk_ (bl_ hg (kk_ BK375))
         have NB390_375 := mk_ (bg_ hg (kk_ BK375))
         replace BK375 := mk_ (blk_below (kk_ BK375) hb)
         have NB385_390 := mk_ (bl_ hg (kk_ BK385))
         have NB390_385 := mk_ (bg_ hg (kk_ BK385))
         replace BK385 := mk_ (blk_below (kk_ BK385) hb)
         clear hb hbox hg
         refine hK.out _ _ ⟨(blk_cell BK375.out 0).trans rfl, (blk_cell BK375.out 1).trans rfl, (cb_ HB hw386_0), (cb_ HB hw386_1), (cb_ HB hw386_2), (cb_ HB hw386_3), (cb_ HB hw386_4), (cb_ HB hw387_0), (cb_ HB hw387_1), (cb_ HB hw387_2), (cb_ HB hw387_3), (cb_ HB hw387_4)⟩ (fun hHeld => ?_)
         clear hK K
         refine norm_ (a' := ?_) ?_ ?_
         rotate_left
         ·show Act.put _ (some 12) _ = _
          simp only [Act.put, sI_, s0_, sS_, i64_w, i32_w]
          rfl
         exact norm_ (by simp only [putAll, Act.put, sI_, s0_, sS_]) (hCont (gb390) _ ⟨hHeld, (rr_ HO_8), (kk_ BK375), (kk_ BK385), (kk_ BK390), GW390.out, GE390.out, NB375_390.out, NB390_375.out, NB385_390.out, NB390_385.out, (bs3_ HB GE375 GE385 GE390)⟩)
        ·skip
         refine box_step ?hg (N := 12) ?hd (cs := #[.int .i64 0, .int .i64 0]) (t := 24) ?hr ?_; (case hd => rfl); (case hg => rfl); (case hr => first | (go_simp; done) | (go_simp; rfl))
         intro gb390 hg w42 hbox hb
         replace HO_8 := mk_ (Kd.R_below (rr_ HO_8) hb)
         have BK390 := mk_ (hbox)
         have GW390 := mk_ (bz_ hg (bs2_ HB GE375 GE385))
         have GE390 := mk_ (bz_ hg (bs2_ HB GE375 GE385))
         replace HB := mk_ (below_step (bs2_ HB GE375 GE385) hb)
         have NB375_390 := mk_ (bl_ hg (kk_ BK375))
         have NB390_375 := mk_ (bg_ hg (kk_ BK375))
         replace BK375 := mk_ (blk_below (kk_ BK375) hb)
         have NB385_390 := mk_ (bl_ hg (kk_ BK385))
         have NB390_385 := mk_ (bg_ hg (kk_ BK385))
         replace BK385 := mk_ (blk_below (kk_ BK385) hb)
         clear hb hbox hg
         refine hK.out _ _ ⟨(blk_cell BK375.out 0).trans rfl, (blk_cell BK375.out 1).trans rfl, (cb_ HB hw386_0), (cb_ HB hw386_1), (cb_ HB hw386_2), (cb_ HB hw386_3), (cb_ HB hw386_4), (cb_ HB hw387_0), (cb_ HB hw387_1), (cb_ HB hw387_2), (cb_ HB hw387_3), (cb_ HB hw387_4)⟩ (fun hHeld => ?_)
         clear hK K
         refine norm_ (a' := ?_) ?_ ?_
         rotate_left
         ·show Act.put _ (some 12) _ = _
          simp only [Act.put, sI_, s0_, sS_, i64_w, i32_w]
          rfl
         refine one_ (i := 18) (N := some 86) (w_ 21 1048575) rfl rfl (one_of HT_.out (by kernel_rfl)) (by decide) (fun K hK => ?_)
         refine goes_ Try.func32 (by kernel_rfl) rfl #[.int .i64 (wrap64 (((rd_T51 l0 x9_2).f2.f0) * a1_0)), .int .i64 (wrap64 (((rd_T51 l0 x9_2).f2.f1) * a1_1))] (by rfl) rfl rfl (by (try simp only [List.map_toArray, List.map_cons, List.map_nil]); first | done | rfl | (simp only [List.length_drop, List.length_take]; rfl)) ?_
         with_reducible refine (cohousingref05_Reduce.calls kj12 (wrap64 (((rd_T51 l0 x9_2).f2.f0) * a1_0)) (wrap64 (((rd_T51 l0 x9_2).f2.f1) * a1_1)) t388 t389 _ A30.out).mono ?_
         rintro e w43 ⟨rfl, hb⟩
         refine ⟨_, rfl, ?_⟩
         replace HO_8 := mk_ (Kd.R_below (rr_ HO_8) hb)
         replace BK375 := mk_ (blk_below (kk_ BK375) hb)
         replace BK385 := mk_ (blk_below (kk_ BK385) hb)
         replace BK390 := mk_ (blk_below (kk_ BK390) hb)
         replace HB := mk_ (below_step (bs3_ HB GE375 GE385 GE390) hb)
         (try clear hb)
         refine hK.out _ _ ⟨(blk_cell BK375.out 0).trans rfl, (blk_cell BK375.out 1).trans rfl, (cb_ HB hw386_0), (cb_ HB hw386_1), (cb_ HB hw386_2), (cb_ HB hw386_3), (cb_ HB hw386_4), (cb_ HB hw387_0), (cb_ HB hw387_1), (cb_ HB hw387_2), (cb_ HB hw387_3), (cb_ HB hw387_4)⟩ (fun hHeld => ?_)
         clear hK K
         refine norm_ (a' := ?_) ?_ ?_
         rotate_left
         ·show Act.put _ (some 86) _ = _
          simp only [Act.put, sI_, s0_, sS_, i64_w, i32_w]
          rfl
         exact norm_ (by simp only [putAll, Act.put, sI_, s0_, sS_]) (hCont (gb390) _ ⟨hHeld, (rr_ HO_8), (kk_ BK375), (kk_ BK385), (kk_ BK390), GW390.out, GE390.out, NB375_390.out, NB390_375.out, NB385_390.out, NB390_385.out, (bs3_ HB GE375 GE385 GE390)⟩)
       rintro gb390 w44 ⟨hS_, h0_, h1_, h2_, h3_, h4_, h5_, h6_, h7_, h8_, h9_, h10_⟩
       have n0_ : Aside0 (Kd.R k51 51 w44 w.heap.size (fun _ => True) u8 x8_2) := ⟨h0_⟩
       have n1_ : Aside0 (w44.heap[gb375]? = some (.cells #[.int .i64 a1_0, .int .i64 a1_1] 24 (0, 0))) := ⟨h1_⟩
       have n2_ : Aside0 (w44.heap[gb385]? = some (.cells #[.int .i64 t383, .int .i64 t384] 24 (0, 0))) := ⟨h2_⟩
       have n3_ : Aside0 (w44.heap[gb390]? = some (.cells #[.int .i64 0, .int .i64 0] 24 (0, 0))) := ⟨h3_⟩
       have n4_ : Aside0 (w.heap.size ≤ gb390) := ⟨h4_⟩
       have n5_ : Aside0 (w.heap.size ≤ gb390) := ⟨h5_⟩
       have n6_ : Aside0 (gb375 ≠ gb390) := ⟨h6_⟩
       have n7_ : Aside0 (gb390 ≠ gb375) := ⟨h7_⟩
       have n8_ : Aside0 (gb385 ≠ gb390) := ⟨h8_⟩
       have n9_ : Aside0 (gb390 ≠ gb385) := ⟨h9_⟩
       have n10_ : Aside0 (Below w.heap.size w w44) := ⟨h10_⟩
       clear HO_8
       clear BK375
       clear BK385
       clear HB
       clear h0_ h1_ h2_ h3_ h4_ h5_ h6_ h7_ h8_ h9_ h10_
       have HO_8 := n0_
       have BK375 := n1_
       have BK385 := n2_
       have BK390 := n3_
       have GW390 := n4_
       have GE390 := n5_
       have NB375_390 := n6_
       have NB390_375 := n7_
       have NB385_390 := n8_
       have NB390_385 := n9_
       have HB := n10_
       clear n0_ n1_ n2_ n3_ n4_ n5_ n6_ n7_ n8_ n9_ n10_
       have hHeld : w44.cell? ⟨gb375, 0, none⟩ = some (.int .i64 a1_0) ∧ w44.cell? ⟨gb375, 1, none⟩ = some (.int .i64 a1_1) ∧ w44.cell? (ad381.add ((x9_2).toNat * 5)) = some (.int .i64 ((rd_T51 l0 x9_2).f0)) ∧ w44.cell? ⟨(ad381.add ((x9_2).toNat * 5)).block, (ad381.add ((x9_2).toNat * 5)).off + 1, none⟩ = some (.int .i64 ((rd_T51 l0 x9_2).f1.f0)) ∧ w44.cell? ⟨(ad381.add ((x9_2).toNat * 5)).block, (ad381.add ((x9_2).toNat * 5)).off + 2, none⟩ = some (.int .i64 ((rd_T51 l0 x9_2).f1.f1)) ∧ w44.cell? ⟨(ad381.add ((x9_2).toNat * 5)).block, (ad381.add ((x9_2).toNat * 5)).off + 3, none⟩ = some (.int .i64 ((rd_T51 l0 x9_2).f2.f0)) ∧ w44.cell? ⟨(ad381.add ((x9_2).toNat * 5)).block, (ad381.add ((x9_2).toNat * 5)).off + 4, none⟩ = some (.int .i64 ((rd_T51 l0 x9_2).f2.f1)) ∧ w44.cell? (ad381.add ((x9_2).toNat * 5)) = some (.int .i64 ((rd_T51 l0 x9_2).f0)) ∧ w44.cell? ⟨(ad381.add ((x9_2).toNat * 5)).block, (ad381.add ((x9_2).toNat * 5)).off + 1, none⟩ = some (.int .i64 ((rd_T51 l0 x9_2).f1.f0)) ∧ w44.cell? ⟨(ad381.add ((x9_2).toNat * 5)).block, (ad381.add ((x9_2).toNat * 5)).off + 2, none⟩ = some (.int .i64 ((rd_T51 l0 x9_2).f1.f1)) ∧ w44.cell? ⟨(ad381.add ((x9_2).toNat * 5)).block, (ad381.add ((x9_2).toNat * 5)).off + 3, none⟩ = some (.int .i64 ((rd_T51 l0 x9_2).f2.f0)) ∧ w44.cell? ⟨(ad381.add ((x9_2).toNat * 5)).block, (ad381.add ((x9_2).toNat * 5)).off + 4, none⟩ = some (.int .i64 ((rd_T51 l0 x9_2).f2.f1)) := hS_
       refine norm_ (a' := ?_) ?_ ?_
       rotate_left
       ·simp only [putAll, Act.put, sI_, s0_, sS_]
        rfl
       refine one_ (i := 20) (N := none) (w_ 21 2097151) rfl rfl (one_of HT_.out (by kernel_rfl)) (by decide) (fun K hK => ?_)
       have hs45 : w44.cell? ⟨gb390, 0, none⟩ = some (.int .i64 0) := (blk_cell BK390.out 0).trans rfl
       have hfs45 := blk_frozen BK390.out 0
       have hns45_0 := NB375_390.out
       have hns45_1 := NB385_390.out
       have hms45_0 := NB390_375.out
       have hms45_1 := NB390_385.out
       have hs46 : w44.cell? ⟨gb390, 1, none⟩ = some (.int .i64 0) := (blk_cell BK390.out 1).trans rfl
       have hfs46 := blk_frozen BK390.out 1
       have hns46_0 := NB375_390.out
       have hns46_1 := NB385_390.out
       have hms46_0 := NB390_375.out
       have hms46_1 := NB390_385.out
       refine skip_ (w1 := ?_) (by rfl) rfl ?_ ?_
       rotate_left
       ·go_simp
        rfl
       refine hK.out _ _ ⟨((cell_far (p := ⟨gb390, _, none⟩) NB375_390.out _).trans (((cell_far (p := ⟨gb390, _, none⟩) NB375_390.out _).trans (hHeld.1)))), ((cell_far (p := ⟨gb390, _, none⟩) NB375_390.out _).trans (((cell_far (p := ⟨gb390, _, none⟩) NB375_390.out _).trans (hHeld.2.1)))), ((cell_far (p := ⟨gb390, _, none⟩) (nf_ hw386_0 GW390) _).trans (((cell_far (p := ⟨gb390, _, none⟩) (nf_ hw386_0 GW390) _).trans (hHeld.2.2.1)))), ((cell_far (p := ⟨gb390, _, none⟩) (nf_ hw386_1 GW390) _).trans (((cell_far (p := ⟨gb390, _, none⟩) (nf_ hw386_1 GW390) _).trans (hHeld.2.2.2.1)))), ((cell_far (p := ⟨gb390, _, none⟩) (nf_ hw386_2 GW390) _).trans (((cell_far (p := ⟨gb390, _, none⟩) (nf_ hw386_2 GW390) _).trans (hHeld.2.2.2.2.1)))), ((cell_far (p := ⟨gb390, _, none⟩) (nf_ hw386_3 GW390) _).trans (((cell_far (p := ⟨gb390, _, none⟩) (nf_ hw386_3 GW390) _).trans (hHeld.2.2.2.2.2.1)))), ((cell_far (p := ⟨gb390, _, none⟩) (nf_ hw386_4 GW390) _).trans (((cell_far (p := ⟨gb390, _, none⟩) (nf_ hw386_4 GW390) _).trans (hHeld.2.2.2.2.2.2.1)))), ((cell_far (p := ⟨gb390, _, none⟩) (nf_ hw387_0 GW390) _).trans (((cell_far (p := ⟨gb390, _, none⟩) (nf_ hw387_0 GW390) _).trans (hHeld.2.2.2.2.2.2.2.1)))), ((cell_far (p := ⟨gb390, _, none⟩) (nf_ hw387_1 GW390) _).trans (((cell_far (p := ⟨gb390, _, none⟩) (nf_ hw387_1 GW390) _).trans (hHeld.2.2.2.2.2.2.2.2.1)))), ((cell_far (p := ⟨gb390, _, none⟩) (nf_ hw387_2 GW390) _).trans (((cell_far (p := ⟨gb390, _, none⟩) (nf_ hw387_2 GW390) _).trans (hHeld.2.2.2.2.2.2.2.2.2.1)))), ((cell_far (p := ⟨gb390, _, none⟩) (nf_ hw387_3 GW390) _).trans (((cell_far (p := ⟨gb390, _, none⟩) (nf_ hw387_3 GW390) _).trans (hHeld.2.2.2.2.2.2.2.2.2.2.1)))), ((cell_far (p := ⟨gb390, _, none⟩) (nf_ hw387_4 GW390) _).trans (((cell_far (p := ⟨gb390, _, none⟩) (nf_ hw387_4 GW390) _).trans (hHeld.2.2.2.2.2.2.2.2.2.2.2))))⟩ (fun hHeld => ?_)
       clear hK K
       refine done_ (done_of HT_.out (by kernel_rfl)) ?_
       try go_wp2
       have n0_ : Aside0 (Kd.R k51 51 ((w44.setCell ⟨gb390, 0, none⟩ (.int .i64 t388)).setCell ⟨gb390, 1, none⟩ (.int .i64 t389)) w.heap.size (fun _ => True) u8 x8_2) := ⟨by (with_reducible repeat (first | apply Kd.R_alloc | apply Kd.R_drewN | apply Kd.R_drew)); exact Kd.R_mono (Kd.R_far (p := ⟨gb390, 1, none⟩) (Kd.R_far (p := ⟨gb390, 0, none⟩) (Kd.R_types HO_8.out BK390.out (by decide)) (fun _ hk => hk.2) (.int .i64 t388)) (fun _ hk => hk.2) (.int .i64 t389)) (fun _ hk => trivial)⟩
       have n1_ : Aside0 (((w44.setCell ⟨gb390, 0, none⟩ (.int .i64 t388)).setCell ⟨gb390, 1, none⟩ (.int .i64 t389)).heap[gb375]? = some (.cells #[.int .i64 a1_0, .int .i64 a1_1] 24 (0, 0))) := ⟨by (with_reducible repeat (first | refine blk_drewN ?_ _ | refine blk_drew ?_ | refine blk_alloc ?_ _)); refine blk_far ?_ NB375_390.out _; (with_reducible repeat (first | refine blk_drewN ?_ _ | refine blk_drew ?_ | refine blk_alloc ?_ _)); refine blk_far ?_ NB375_390.out _; (with_reducible repeat (first | refine blk_drewN ?_ _ | refine blk_drew ?_ | refine blk_alloc ?_ _)); exact BK375.out⟩
       have n2_ : Aside0 (((w44.setCell ⟨gb390, 0, none⟩ (.int .i64 t388)).setCell ⟨gb390, 1, none⟩ (.int .i64 t389)).heap[gb385]? = some (.cells #[.int .i64 t383, .int .i64 t384] 24 (0, 0))) := ⟨by (with_reducible repeat (first | refine blk_drewN ?_ _ | refine blk_drew ?_ | refine blk_alloc ?_ _)); refine blk_far ?_ NB385_390.out _; (with_reducible repeat (first | refine blk_drewN ?_ _ | refine blk_drew ?_ | refine blk_alloc ?_ _)); refine blk_far ?_ NB385_390.out _; (with_reducible repeat (first | refine blk_drewN ?_ _ | refine blk_drew ?_ | refine blk_alloc ?_ _)); exact BK385.out⟩
       have n3_ : Aside0 (((w44.setCell ⟨gb390, 0, none⟩ (.int .i64 t388)).setCell ⟨gb390, 1, none⟩ (.int .i64 t389)).heap[gb390]? = some (.cells #[.int .i64 t388, .int .i64 t389] 24 (0, 0))) := ⟨by (with_reducible repeat (first | refine blk_drewN ?_ _ | refine blk_drew ?_ | refine blk_alloc ?_ _)); refine blk_put (cs := #[.int .i64 t388, .int .i64 0]) ?_ 1 _ rfl; (with_reducible repeat (first | refine blk_drewN ?_ _ | refine blk_drew ?_ | refine blk_alloc ?_ _)); refine blk_put (cs := #[.int .i64 0, .int .i64 0]) ?_ 0 _ rfl; (with_reducible repeat (first | refine blk_drewN ?_ _ | refine blk_drew ?_ | refine blk_alloc ?_ _)); exact BK390.out⟩
       have n4_ : Aside0 (Below w.heap.size w ((w44.setCell ⟨gb390, 0, none⟩ (.int .i64 t388)).setCell ⟨gb390, 1, none⟩ (.int .i64 t389))) := ⟨bs3_ HB GE375 GE385 GE390⟩
       (try clear HO_8)
       (try clear BK375)
       (try clear BK385)
       (try clear BK390)
       (try clear HB)
       generalize ((w44.setCell ⟨gb390, 0, none⟩ (.int .i64 t388)).setCell ⟨gb390, 1, none⟩ (.int .i64 t389)) = w47 at n0_ n1_ n2_ n3_ n4_ ⊢
       have HO_8 := n0_
       have BK375 := n1_
       have BK385 := n2_
       have BK390 := n3_
       have HB := n4_
       clear n0_ n1_ n2_ n3_ n4_
       replace HO_8 := mk_ (Kd.R_drew HO_8.out)
       replace BK375 := mk_ (blk_drew BK375.out)
       replace BK385 := mk_ (blk_drew BK385.out)
       replace BK390 := mk_ (blk_drew BK390.out)
       replace HB := mk_ (below_drew1 HB.out)
       have p391 : 0 ≤ (x9_2 : Int) := od_
       have q391 : x9_2 < (l0.length : Int) := od_
       obtain ⟨ad391, e391, hx391_0, hx391_1, hx391_2, hx391_3, hx391_4⟩ := at_T51 HR0.out x9_2 p391 q391
       have hw391_4 := hx391_4
       have hw391_3 := hx391_3
       have hw391_2 := hx391_2
       have hw391_1 := hx391_1
       have hw391_0 := hx391_0
       obtain rfl : ad381 = ad391 := (by injection e391)
       replace hx391_0 := cb_ HB hx391_0
       replace hx391_1 := cb_ HB hx391_1
       replace hx391_2 := cb_ HB hx391_2
       replace hx391_3 := cb_ HB hx391_3
       replace hx391_4 := cb_ HB hx391_4
       replace p391 := eq_true p391
       replace q391 := eq_true q391
       refine start_ (n := 12) (S := fun w' => w'.cell? ⟨gb385, 0, none⟩ = some (.int .i64 t383) ∧ w'.cell? ⟨gb385, 1, none⟩ = some (.int .i64 t384) ∧ w'.cell? ⟨gb390, 0, none⟩ = some (.int .i64 t388) ∧ w'.cell? ⟨gb390, 1, none⟩ = some (.int .i64 t389) ∧ w'.cell? (ad381.add ((x9_2).toNat * 5)) = some (.int .i64 ((rd_T51 l0 x9_2).f0)) ∧ w'.cell? ⟨(ad381.add ((x9_2).toNat * 5)).block, (ad381.add ((x9_2).toNat * 5)).off + 1, none⟩ = some (.int .i64 ((rd_T51 l0 x9_2).f1.f0)) ∧ w'.cell? ⟨(ad381.add ((x9_2).toNat * 5)).block, (ad381.add ((x9_2).toNat * 5)).off + 2, none⟩ = some (.int .i64 ((rd_T51 l0 x9_2).f1.f1)) ∧ w'.cell? ⟨(ad381.add ((x9_2).toNat * 5)).block, (ad381.add ((x9_2).toNat * 5)).off + 3, none⟩ = some (.int .i64 ((rd_T51 l0 x9_2).f2.f0)) ∧ w'.cell? ⟨(ad381.add ((x9_2).toNat * 5)).block, (ad381.add ((x9_2).toNat * 5)).off + 4, none⟩ = some (.int .i64 ((rd_T51 l0 x9_2).f2.f1))) (ds := []) #[n_, n_, n_, n_, n_, n_, n_, n_, n_, n_, n_, n_] (by kernel_rfl) rfl rfl ⟨(blk_cell BK385.out 0).trans rfl, (blk_cell BK385.out 1).trans rfl, (blk_cell BK390.out 0).trans rfl, (blk_cell BK390.out 1).trans rfl, (cb_ HB hw391_0), (cb_ HB hw391_1), (cb_ HB hw391_2), (cb_ HB hw391_3), (cb_ HB hw391_4)⟩ (fun hHeld => ?_); refine with_tabW cohousingref05_Scale.tab14 cohousingref05_Scale.bits14 (fun HT_ HW_ => ?_)
       generalize w47.drew = w48 at HO_8 BK375 BK385 BK390 HB hx391_0 hx391_1 hx391_2 hx391_3 hx391_4 hHeld ⊢
       refine pu_ 0 87 (w_ 12 1) rfl HT_ ?_
       refine pu_ 1 88 (w_ 12 3) rfl HT_ ?_
       refine pu_ 2 89 (w_ 12 7) rfl HT_ ?_
       refine pu_ 3 90 (w_ 12 15) rfl HT_ ?_
       refine pu_ 4 91 (w_ 12 31) rfl HT_ ?_
       refine ta_ 5 92 (w_ 12 63) rfl HT_ HW_ hHeld (by rintro w' ⟨s0, s1, s2, s3, s4, s5, s6, s7, s8⟩; go_simp; with_reducible rfl) ?_
       refine ta_ 6 93 (w_ 12 127) rfl HT_ HW_ hHeld (by rintro w' ⟨s0, s1, s2, s3, s4, s5, s6, s7, s8⟩; go_simp; with_reducible rfl) ?_
       refine ta_ 7 94 (w_ 12 255) rfl HT_ HW_ hHeld (by rintro w' ⟨s0, s1, s2, s3, s4, s5, s6, s7, s8⟩; go_simp; with_reducible rfl) ?_
       refine pu_ 8 95 (w_ 12 511) rfl HT_ ?_
       refine one_ (i := 9) (N := some 96) (w_ 12 1023) rfl rfl (one_of HT_.out (by kernel_rfl)) (by decide) (fun K hK => ?_)
       refine value_ (w1 := ?_) (v := ?_) (by rfl) rfl ?_ ?_
       rotate_left 2
       ·go_simp
        constructor
        ·rfl
        ·rfl
       refine hK.out _ _ ⟨(blk_cell (blk_alloc BK385.out _) 0).trans rfl, (blk_cell (blk_alloc BK385.out _) 1).trans rfl, (blk_cell (blk_alloc BK390.out _) 0).trans rfl, (blk_cell (blk_alloc BK390.out _) 1).trans rfl, (World.cell?_alloc_lt _ _ _ (World.block_lt_of_cell? _ _ ((cb_ HB hw391_0)))).trans ((cb_ HB hw391_0)), (World.cell?_alloc_lt _ _ _ (World.block_lt_of_cell? _ _ ((cb_ HB hw391_1)))).trans ((cb_ HB hw391_1)), (World.cell?_alloc_lt _ _ _ (World.block_lt_of_cell? _ _ ((cb_ HB hw391_2)))).trans ((cb_ HB hw391_2)), (World.cell?_alloc_lt _ _ _ (World.block_lt_of_cell? _ _ ((cb_ HB hw391_3)))).trans ((cb_ HB hw391_3)), (World.cell?_alloc_lt _ _ _ (World.block_lt_of_cell? _ _ ((cb_ HB hw391_4)))).trans ((cb_ HB hw391_4))⟩ (fun hHeld => ?_)
       clear hK K
       refine norm_ (a' := ?_) ?_ ?_
       rotate_left
       ·show Act.put _ (some 96) _ = _
        simp only [Act.put, sI_, s0_, sS_, i64_w, i32_w]
        rfl
       refine one_ (i := 10) (N := some 97) (w_ 12 2047) rfl rfl (one_of HT_.out (by kernel_rfl)) (by decide) (fun K hK => ?_)
       refine Kd.R_append_step k51 (w0 := w) w.heap.size (by rfl) (.tmp 87) (.tmp 96) 22 51 (.agg #[(.int .i64 0), (.int .i64 0), (.int .i64 0), (.int .i64 0), (.int .i64 0)]) 40 rfl Try.underlying22 info51 rfl (by decide) (by omega) u8 x8_2 (⟨(rd_T51 l0 x9_2).f0, (⟨t383, t384⟩ : S24), (⟨t388, t389⟩ : S24)⟩ : S51) [.int .i64 ((rd_T51 l0 x9_2).f0), .int .i64 t383, .int .i64 t384, .int .i64 t388, .int .i64 t389] (fun _ => True) (fun _ => False) rfl rfl ?aP (fun _ hk => hk.elim) ?aF ?aO ?aB ?aS ?aL ?_
       (case aP => exact k51_mkM _ _ _ (⟨(rd_T51 l0 x9_2).f0, (⟨t383, t384⟩ : S24), (⟨t388, t389⟩ : S24)⟩ : S51))
       (case aB => exact (bs3_ HB GE375 GE385 GE390))
       (case aF => exact (fun _ _ => trivial))
       (case aO => exact (rr_ HO_8))
       (case aS => exact (below_size (bs3_ HB GE375 GE385 GE390)))
       (case aL => have := LMc31.out; omega)
       intro v393 w49 ho hb hg hat
       rw [← Ny392.out] at ho
       have n0_ := mk_ (blk_grown (kk_ BK375) hg (Kd.R_ne HO_8.out BK375.out (by decide)))
       have n1_ := mk_ (blk_grown (kk_ BK385) hg (Kd.R_ne HO_8.out BK385.out (by decide)))
       have n2_ := mk_ (blk_grown (kk_ BK390) hg (Kd.R_ne HO_8.out BK390.out (by decide)))
       have n3_ := mk_ (hb)
       have n4_ := mk_ (ho)
       clear BK375
       clear BK385
       clear BK390
       clear HB
       clear HO_8
       have BK375 := n0_
       have BK385 := n1_
       have BK390 := n2_
       have HB := n3_
       have HO394 := n4_
       clear n0_ n1_ n2_ n3_ n4_
       clear ho hb hg hat
       refine hK.out _ _ ⟨(blk_cell BK385.out 0).trans rfl, (blk_cell BK385.out 1).trans rfl, (blk_cell BK390.out 0).trans rfl, (blk_cell BK390.out 1).trans rfl, (cb_ HB hw391_0), (cb_ HB hw391_1), (cb_ HB hw391_2), (cb_ HB hw391_3), (cb_ HB hw391_4)⟩ (fun hHeld => ?_)
       clear hK K
       refine norm_ (a' := ?_) ?_ ?_
       rotate_left
       ·show Act.put _ (some 97) _ = _
        simp only [Act.put, sI_, s0_, sS_, i64_w, i32_w]
        rfl
       refine pu_ 11 8 (w_ 12 4095) rfl HT_ ?_
       refine done_ (done_of HT_.out (by kernel_rfl)) ?_
       have hnb50 := NB385_375.out
       have hnc50 := NB375_385.out
       have hnb51 := NB385_390.out
       have hnc51 := NB390_385.out
       have hcz52_0 := bc0_ BK385.out
       have hcz52_1 := bc1_ BK385.out
       have hfz52_0 := blk_frozen BK385.out 0
       have hfz52_1 := blk_frozen BK385.out 1
       have hnb53 := NB390_375.out
       have hnc53 := NB375_390.out
       have hcz54_0 := bc0_ BK390.out
       have hcz54_1 := bc1_ BK390.out
       have hfz54_0 := blk_frozen BK390.out 0
       have hfz54_1 := blk_frozen BK390.out 1
       have H := Hmc33_.out
       clear Hmc33_
       by_cases c33 : t399 = true
       case' _ =>
        subst c33
        have H1 : (cohousingref05_Scale.l0 kj12 l0 y392 (wrap64 (x9_2 + 1)) a1_0 a1_1) = some (r1, r2) := by rw [if_pos rfl] at H; exact H
        clear H
        have H := H1
        clear H1
        have H' := mk_ H
        clear H
       rotate_left
       case' _ =>
        replace c33 := Bool.eq_false_iff.mpr c33
        subst c33
        have H1 : (some (([] : List (S51)), 3)) = some (r1, r2) := by rw [if_neg (show ¬ (false = true) by decide)] at H; exact H
        clear H
        have H := H1
        clear H1
        simp only [Option.some.injEq, Prod.mk.injEq] at H
        obtain ⟨rfl, rfl⟩ := H
       rotate_left
       all_goals try go_wp2_with (first | ((with_reducible refine gate_dst (N := 13) rfl ?_); refine box_event ?hg (N := 13) ?hd (cs := #[.int .i64 0, .int .i64 0, .int .i64 0, .int .i64 0, .int .i64 0]) (t := 51) ?hr ?_; (case hd => rfl); (case hg => rfl); (case hr => first | (go_simp; done) | (go_simp; rfl)); intro gb395 hg w55 hbox hb; replace HO394 := mk_ (Kd.R_below (Kd.R_elderB (rr_ HO394) gb395 (Nat.le_of_eq hg.symm)) hb); have BK395 := mk_ (hbox); have GW395 := mk_ (bz_ hg (bs3_ HB GE375 GE385 GE390)); have GE395 := mk_ (bz_ hg (bs3_ HB GE375 GE385 GE390)); replace HB := mk_ (below_step (bs3_ HB GE375 GE385 GE390) hb); have NB375_395 := mk_ (bl_ hg (kk_ BK375)); have NB395_375 := mk_ (bg_ hg (kk_ BK375)); replace BK375 := mk_ (blk_below (kk_ BK375) hb); have NB385_395 := mk_ (bl_ hg (kk_ BK385)); have NB395_385 := mk_ (bg_ hg (kk_ BK385)); replace BK385 := mk_ (blk_below (kk_ BK385) hb); have NB390_395 := mk_ (bl_ hg (kk_ BK390)); have NB395_390 := mk_ (bg_ hg (kk_ BK390)); replace BK390 := mk_ (blk_below (kk_ BK390) hb); clear hb hbox hg; have hnb56 := NB395_375.out; have hnc56 := NB375_395.out; have hnb57 := NB395_385.out; have hnc57 := NB385_395.out; have hnb58 := NB395_390.out; have hnc58 := NB390_395.out; have hcz59_0 := bc0_ BK395.out; have hcz59_1 := bc1_ BK395.out; have hcz59_2 := bc2_ BK395.out; have hcz59_3 : w55.cell? ⟨gb395, 3, none⟩ = some (.int .i64 0) := (blk_cell BK395.out 3).trans rfl; have hcz59_4 : w55.cell? ⟨gb395, 4, none⟩ = some (.int .i64 0) := (blk_cell BK395.out 4).trans rfl; have hfz59_0 := blk_frozen BK395.out 0; have hfz59_1 := blk_frozen BK395.out 1; have hfz59_2 := blk_frozen BK395.out 2; have hfz59_3 := blk_frozen BK395.out 3; have hfz59_4 := blk_frozen BK395.out 4) | ((with_reducible refine gate_dst (N := 102) rfl ?_); refine Kd.R_lit k51 _ 51 ?hg (N := 102) ?hd (xs := ([(⟨0, (⟨t383, t384⟩ : S24), (⟨t388, t389⟩ : S24)⟩ : S51)] : List (S51))) (inner := [.int .i64 0, .int .i64 t383, .int .i64 t384, .int .i64 t388, .int .i64 t389]) (ok := fun _ => True) (okp := fun _ => True) ?hr ?hp (fun _ hk => hk) trivial (Below.refl _ _) (Nat.le_refl _) (by simp) ?_; (case hd => rfl); (case hg => rfl); (case hr => first | (go_simp; done) | (go_simp; rfl)); (case hp => exact (Reps.c5 (show Kd.M k51 _ _ _ (⟨0, (⟨t383, t384⟩ : S24), (⟨t388, t389⟩ : S24)⟩ : S51) [.int .i64 0, .int .i64 t383, .int .i64 t384, .int .i64 t388, .int .i64 t389] from (k51_mkM _ _ _ (⟨0, (⟨t383, t384⟩ : S24), (⟨t388, t389⟩ : S24)⟩ : S51) )) (Reps.none _ _))); intro v397 w60 ho61 hb hg_ hnew_; clear hg_ hnew_; (first | rw [← Ny396.out] at ho61 | (simp only [Int.reduceToNat] at ho61; rw [← Ny396.out] at ho61)); have HO398 := mk_ (Kd.R_lower (Kd.R_newB (Kd.R_new' ho61 (Kd.R_lt (by (with_reducible repeat (first | apply Kd.R_alloc | apply Kd.R_drewN | apply Kd.R_drew)); exact (Kd.R_mono (Kd.R_far (p := ⟨gb395, 4, none⟩) (Kd.R_far (p := ⟨gb395, 3, none⟩) (Kd.R_far (p := ⟨gb395, 2, none⟩) (Kd.R_far (p := ⟨gb395, 1, none⟩) (Kd.R_far (p := ⟨gb395, 0, none⟩) (Kd.R_mono HO394.out (fun k_ hk => (⟨hk, hk.2⟩ : _ ∧ k_ ≠ gb395))) (fun _ hk => hk.2) (.int .i64 0)) (fun _ hk => hk.2) (.int .i64 t383)) (fun _ hk => hk.2) (.int .i64 t384)) (fun _ hk => hk.2) (.int .i64 t388)) (fun _ hk => hk.2) (.int .i64 t389)) (fun _ h_ => h_.1))))) (g := gb395) (o := .cells #[.int .i64 0, .int .i64 t383, .int .i64 t384, .int .i64 t388, .int .i64 t389] 51 (0, 0)) (by (with_reducible repeat (first | refine blk_drewN ?_ _ | refine blk_drew ?_ | refine blk_alloc ?_ _)); refine blk_put (cs := #[.int .i64 0, .int .i64 t383, .int .i64 t384, .int .i64 t388, .int .i64 0]) ?_ 4 _ rfl; (with_reducible repeat (first | refine blk_drewN ?_ _ | refine blk_drew ?_ | refine blk_alloc ?_ _)); refine blk_put (cs := #[.int .i64 0, .int .i64 t383, .int .i64 t384, .int .i64 0, .int .i64 0]) ?_ 3 _ rfl; (with_reducible repeat (first | refine blk_drewN ?_ _ | refine blk_drew ?_ | refine blk_alloc ?_ _)); refine blk_put (cs := #[.int .i64 0, .int .i64 t383, .int .i64 0, .int .i64 0, .int .i64 0]) ?_ 2 _ rfl; (with_reducible repeat (first | refine blk_drewN ?_ _ | refine blk_drew ?_ | refine blk_alloc ?_ _)); refine blk_put (cs := #[.int .i64 0, .int .i64 0, .int .i64 0, .int .i64 0, .int .i64 0]) ?_ 1 _ rfl; (with_reducible repeat (first | refine blk_drewN ?_ _ | refine blk_drew ?_ | refine blk_alloc ?_ _)); refine blk_put (cs := #[.int .i64 0, .int .i64 0, .int .i64 0, .int .i64 0, .int .i64 0]) ?_ 0 _ rfl; (with_reducible repeat (first | refine blk_drewN ?_ _ | refine blk_drew ?_ | refine blk_alloc ?_ _)); exact BK395.out)) (below_size (bs4_ HB GE375 GE385 GE390 GE395))); replace HO394 := mk_ (Kd.R_elder' (by (with_reducible repeat (first | apply Kd.R_alloc | apply Kd.R_drewN | apply Kd.R_drew)); exact (Kd.R_mono (Kd.R_far (p := ⟨gb395, 4, none⟩) (Kd.R_far (p := ⟨gb395, 3, none⟩) (Kd.R_far (p := ⟨gb395, 2, none⟩) (Kd.R_far (p := ⟨gb395, 1, none⟩) (Kd.R_far (p := ⟨gb395, 0, none⟩) (Kd.R_mono HO394.out (fun k_ hk => (⟨hk, hk.2⟩ : _ ∧ k_ ≠ gb395))) (fun _ hk => hk.2) (.int .i64 0)) (fun _ hk => hk.2) (.int .i64 t383)) (fun _ hk => hk.2) (.int .i64 t384)) (fun _ hk => hk.2) (.int .i64 t388)) (fun _ hk => hk.2) (.int .i64 t389)) (fun _ h_ => h_.1))) (Kd.R_base ho61) hb); replace BK375 := mk_ (blk_below (g := gb375) (o := .cells #[.int .i64 a1_0, .int .i64 a1_1] 24 (0, 0)) (by (with_reducible repeat (first | refine blk_drewN ?_ _ | refine blk_drew ?_ | refine blk_alloc ?_ _)); refine blk_far ?_ NB375_395.out _; (with_reducible repeat (first | refine blk_drewN ?_ _ | refine blk_drew ?_ | refine blk_alloc ?_ _)); refine blk_far ?_ NB375_395.out _; (with_reducible repeat (first | refine blk_drewN ?_ _ | refine blk_drew ?_ | refine blk_alloc ?_ _)); refine blk_far ?_ NB375_395.out _; (with_reducible repeat (first | refine blk_drewN ?_ _ | refine blk_drew ?_ | refine blk_alloc ?_ _)); refine blk_far ?_ NB375_395.out _; (with_reducible repeat (first | refine blk_drewN ?_ _ | refine blk_drew ?_ | refine blk_alloc ?_ _)); refine blk_far ?_ NB375_395.out _; (with_reducible repeat (first | refine blk_drewN ?_ _ | refine blk_drew ?_ | refine blk_alloc ?_ _)); exact BK375.out) hb); replace BK385 := mk_ (blk_below (g := gb385) (o := .cells #[.int .i64 t383, .int .i64 t384] 24 (0, 0)) (by (with_reducible repeat (first | refine blk_drewN ?_ _ | refine blk_drew ?_ | refine blk_alloc ?_ _)); refine blk_far ?_ NB385_395.out _; (with_reducible repeat (first | refine blk_drewN ?_ _ | refine blk_drew ?_ | refine blk_alloc ?_ _)); refine blk_far ?_ NB385_395.out _; (with_reducible repeat (first | refine blk_drewN ?_ _ | refine blk_drew ?_ | refine blk_alloc ?_ _)); refine blk_far ?_ NB385_395.out _; (with_reducible repeat (first | refine blk_drewN ?_ _ | refine blk_drew ?_ | refine blk_alloc ?_ _)); refine blk_far ?_ NB385_395.out _; (with_reducible repeat (first | refine blk_drewN ?_ _ | refine blk_drew ?_ | refine blk_alloc ?_ _)); refine blk_far ?_ NB385_395.out _; (with_reducible repeat (first | refine blk_drewN ?_ _ | refine blk_drew ?_ | refine blk_alloc ?_ _)); exact BK385.out) hb); replace BK390 := mk_ (blk_below (g := gb390) (o := .cells #[.int .i64 t388, .int .i64 t389] 24 (0, 0)) (by (with_reducible repeat (first | refine blk_drewN ?_ _ | refine blk_drew ?_ | refine blk_alloc ?_ _)); refine blk_far ?_ NB390_395.out _; (with_reducible repeat (first | refine blk_drewN ?_ _ | refine blk_drew ?_ | refine blk_alloc ?_ _)); refine blk_far ?_ NB390_395.out _; (with_reducible repeat (first | refine blk_drewN ?_ _ | refine blk_drew ?_ | refine blk_alloc ?_ _)); refine blk_far ?_ NB390_395.out _; (with_reducible repeat (first | refine blk_drewN ?_ _ | refine blk_drew ?_ | refine blk_alloc ?_ _)); refine blk_far ?_ NB390_395.out _; (with_reducible repeat (first | refine blk_drewN ?_ _ | refine blk_drew ?_ | refine blk_alloc ?_ _)); refine blk_far ?_ NB390_395.out _; (with_reducible repeat (first | refine blk_drewN ?_ _ | refine blk_drew ?_ | refine blk_alloc ?_ _)); exact BK390.out) hb); replace BK395 := mk_ (blk_below (g := gb395) (o := .cells #[.int .i64 0, .int .i64 t383, .int .i64 t384, .int .i64 t388, .int .i64 t389] 51 (0, 0)) (by (with_reducible repeat (first | refine blk_drewN ?_ _ | refine blk_drew ?_ | refine blk_alloc ?_ _)); refine blk_put (cs := #[.int .i64 0, .int .i64 t383, .int .i64 t384, .int .i64 t388, .int .i64 0]) ?_ 4 _ rfl; (with_reducible repeat (first | refine blk_drewN ?_ _ | refine blk_drew ?_ | refine blk_alloc ?_ _)); refine blk_put (cs := #[.int .i64 0, .int .i64 t383, .int .i64 t384, .int .i64 0, .int .i64 0]) ?_ 3 _ rfl; (with_reducible repeat (first | refine blk_drewN ?_ _ | refine blk_drew ?_ | refine blk_alloc ?_ _)); refine blk_put (cs := #[.int .i64 0, .int .i64 t383, .int .i64 0, .int .i64 0, .int .i64 0]) ?_ 2 _ rfl; (with_reducible repeat (first | refine blk_drewN ?_ _ | refine blk_drew ?_ | refine blk_alloc ?_ _)); refine blk_put (cs := #[.int .i64 0, .int .i64 0, .int .i64 0, .int .i64 0, .int .i64 0]) ?_ 1 _ rfl; (with_reducible repeat (first | refine blk_drewN ?_ _ | refine blk_drew ?_ | refine blk_alloc ?_ _)); refine blk_put (cs := #[.int .i64 0, .int .i64 0, .int .i64 0, .int .i64 0, .int .i64 0]) ?_ 0 _ rfl; (with_reducible repeat (first | refine blk_drewN ?_ _ | refine blk_drew ?_ | refine blk_alloc ?_ _)); exact BK395.out) hb); replace HB := mk_ (below_step (bs4_ HB GE375 GE385 GE390 GE395) hb); clear hb ho61; obtain ⟨Ao62, co62, eo62⟩ := Kd.R_slice HO398.out; subst eo62) | ((with_reducible refine gate_callee (f := 15) rfl ?_); refine gl_ (some 103) Try.func15 #[.slice Ao62 y396.length co62] ?_; (with_reducible refine (cohousingref05_Valid.calls kj12 _ _ y396 _ _ ?side1 ?side2 A32.out).mono ?_); (case side1 => exact cc_ ((Kd.R_reads' HO398.out).2.2)); (case side2 => exact (Kd.R_reads' HO398.out).2.1); rintro e w63 ⟨rfl, hb⟩; refine ⟨_, rfl, ?_⟩; replace HO394 := mk_ (Kd.R_below (rr_ HO394) hb); replace HO398 := mk_ (Kd.R_below (rr_ HO398) hb); replace BK375 := mk_ (blk_below (kk_ BK375) hb); replace BK385 := mk_ (blk_below (kk_ BK385) hb); replace BK390 := mk_ (blk_below (kk_ BK390) hb); replace BK395 := mk_ (blk_below (kk_ BK395) hb); replace HB := mk_ (below_step (bs4_ HB GE375 GE385 GE390 GE395) hb); (try clear hb)))
       ·go_roundg kj12
        case measure => have := HJ4.out; have := HK2.out; have := HJ12.out; omega
        case rel => exact ⟨(y392), (wrap64 (x9_2 + 1)), sd_, H', ⟨by have := HJ4.out; have := HK2.out; have := HJ12.out; omega⟩, ⟨by (with_reducible repeat (first | apply Kd.R_alloc | apply Kd.R_drewN | apply Kd.R_drew)); exact Kd.R_mono HO394.out (fun _ hk => trivial)⟩, ⟨kk_ BK375⟩, ⟨bs4_ HB GE375 GE385 GE390 GE395⟩⟩
       ·go_ret2
        exact ⟨_, ew_, by first | exact Kd.R_nil _ _ _ _ _ | exact Kd.N_nil _ _ _ _ _ | exact Kd.V_nil _ _ _ _ _ | exact Kd.Q_nil _ _ _ _ _ | exact Kd.S_nil _ _ _ _ _, bs4_ HB GE375 GE385 GE390 GE395⟩
end
section
def cohousingref05_Compare.f (a0_0 : Int) (a0_1 : Int) (a1_0 : Int) (a1_1 : Int) : Option (Int) := if (wrap64 (a0_0 * a1_1)) < (wrap64 (a1_0 * a0_1)) then (some (-1)) else (if (wrap64 (a0_0 * a1_1)) > (wrap64 (a1_0 * a0_1)) then (some 1) else (some 0))
theorem cohousingref05_Compare.calls (a0_0 : Int) (a0_1 : Int) (a1_0 : Int) (a1_1 : Int) (r : Int) (w : World) (h : cohousingref05_Compare.f a0_0 a0_1 a1_0 a1_1 = some r) :
  Calls Try.prog 29 #[.agg #[.int .i64 a0_0, .int .i64 a0_1], .agg #[.int .i64 a1_0, .int .i64 a1_1]] w fun e w' => e = .returned (.int .i64 r) ∧ Below w.heap.size w w' := by
 have hu24 := Try.underlying24
 have HB := mk_ (Below.refl w.heap.size w)
 have H : (if (wrap64 (a0_0 * a1_1)) < (wrap64 (a1_0 * a0_1)) then (some (-1)) else (if (wrap64 (a0_0 * a1_1)) > (wrap64 (a1_0 * a0_1)) then (some 1) else (some 0))) = some r := h
 clear h
 by_cases c3 : (wrap64 (a0_0 * a1_1)) < (wrap64 (a1_0 * a0_1))
 ·rw [if_pos c3] at H
  have c3b0 : decide ((wrap64 (a0_0 * a1_1)) < (wrap64 (a1_0 * a0_1))) = true := decide_eq_true c3
  clear c3
  obtain rfl := Option.some.inj H
  go_enter Try.func29, Try.ntmps29
  go_wp2_with (first | ((with_reducible refine gate_dst (N := 2) rfl ?_); refine box_event ?hg (N := 2) ?hd (cs := #[.int .i64 a0_0, .int .i64 a0_1]) (t := 24) ?hr ?_; (case hd => rfl); (case hg => rfl); (case hr => first | (go_simp; done) | (go_simp; rfl)); intro gb400 hg w4 hbox hb; have BK400 := mk_ (hbox); have GW400 := mk_ (bz_ hg (bb_ HB)); have GE400 := mk_ (bz_ hg (bb_ HB)); replace HB := mk_ (below_step (bb_ HB) hb); clear hb hbox hg) | ((with_reducible refine gate_dst (N := 3) rfl ?_); refine box_event ?hg (N := 3) ?hd (cs := #[.int .i64 a1_0, .int .i64 a1_1]) (t := 24) ?hr ?_; (case hd => rfl); (case hg => rfl); (case hr => first | (go_simp; done) | (go_simp; rfl)); intro gb401 hg w5 hbox hb; have BK401 := mk_ (hbox); have GW401 := mk_ (bz_ hg (bs_ HB GE400.out)); have GE401 := mk_ (bz_ hg (bs_ HB GE400.out)); replace HB := mk_ (below_step (bs_ HB GE400.out) hb); have NB400_401 := mk_ (bl_ hg (kk_ BK400)); have NB401_400 := mk_ (bg_ hg (kk_ BK400)); replace BK400 := mk_ (blk_below (kk_ BK400) hb); clear hb hbox hg; have hnb6 := NB400_401.out; have hnc6 := NB401_400.out; have hcz7_0 := bc0_ BK400.out; have hcz7_1 := bc1_ BK400.out; have hfz7_0 := blk_frozen BK400.out 0; have hfz7_1 := blk_frozen BK400.out 1; have hcz8_0 := bc0_ BK401.out; have hcz8_1 := bc1_ BK401.out; have hfz8_0 := blk_frozen BK401.out 0; have hfz8_1 := blk_frozen BK401.out 1))
  go_ret
  exact ⟨ew_, bs2_ HB GE400 GE401⟩
 rw [if_neg c3] at H
 have c3b0 : decide ((wrap64 (a0_0 * a1_1)) < (wrap64 (a1_0 * a0_1))) = false := decide_eq_false c3
 clear c3
 by_cases c9 : (wrap64 (a0_0 * a1_1)) > (wrap64 (a1_0 * a0_1))
 case' _ =>
  rw [if_pos c9] at H
  have c9b0 : decide ((wrap64 (a1_0 * a0_1)) < (wrap64 (a0_0 * a1_1))) = true := decide_eq_true c9
  clear c9
  obtain rfl := Option.some.inj H
  go_enter Try.func29, Try.ntmps29
 rotate_left
 case' _ =>
  rw [if_neg c9] at H
  have c9b0 : decide ((wrap64 (a1_0 * a0_1)) < (wrap64 (a0_0 * a1_1))) = false := decide_eq_false c9
  clear c9
  obtain rfl := Option.some.inj H
  go_enter Try.func29, Try.ntmps29
 rotate_left
 all_goals go_wp2_with (first | ((with_reducible refine gate_dst (N := 2) rfl ?_); refine box_event ?hg (N := 2) ?hd (cs := #[.int .i64 a0_0, .int .i64 a0_1]) (t := 24) ?hr ?_; (case hd => rfl); (case hg => rfl); (case hr => first | (go_simp; done) | (go_simp; rfl)); intro gb400 hg w10 hbox hb; have BK400 := mk_ (hbox); have GW400 := mk_ (bz_ hg (bb_ HB)); have GE400 := mk_ (bz_ hg (bb_ HB)); replace HB := mk_ (below_step (bb_ HB) hb); clear hb hbox hg) | ((with_reducible refine gate_dst (N := 3) rfl ?_); refine box_event ?hg (N := 3) ?hd (cs := #[.int .i64 a1_0, .int .i64 a1_1]) (t := 24) ?hr ?_; (case hd => rfl); (case hg => rfl); (case hr => first | (go_simp; done) | (go_simp; rfl)); intro gb401 hg w11 hbox hb; have BK401 := mk_ (hbox); have GW401 := mk_ (bz_ hg (bs_ HB GE400.out)); have GE401 := mk_ (bz_ hg (bs_ HB GE400.out)); replace HB := mk_ (below_step (bs_ HB GE400.out) hb); have NB400_401 := mk_ (bl_ hg (kk_ BK400)); have NB401_400 := mk_ (bg_ hg (kk_ BK400)); replace BK400 := mk_ (blk_below (kk_ BK400) hb); clear hb hbox hg; have hnb12 := NB400_401.out; have hnc12 := NB401_400.out; have hcz13_0 := bc0_ BK400.out; have hcz13_1 := bc1_ BK400.out; have hfz13_0 := blk_frozen BK400.out 0; have hfz13_1 := blk_frozen BK400.out 1; have hcz14_0 := bc0_ BK401.out; have hcz14_1 := bc1_ BK401.out; have hfz14_0 := blk_frozen BK401.out 0; have hfz14_1 := blk_frozen BK401.out 1))
 ·go_ret
  exact ⟨ew_, bs2_ HB GE400 GE401⟩
 ·go_ret
  exact ⟨ew_, bs2_ HB GE400 GE401⟩
end
end Go.Proofs.Ytmhimmodigeeiaa.P
end
