/- Part 1 of the proof of PiecewiseMatchesReference: what it alone needs. -/
import Derived.Test.YtmhimmodigeeiaaCMk
set_option linter.unusedVariables false
set_option linter.unusedSimpArgs false
section
namespace Go.Proofs.Ytmhimmodigeeiaa.P
open Go.RowKit Go.Proofs.YtmhimmodigeeiaaW.PrintWords Go.Proofs.YtmhimmodigeeiaaW.PrintLast Go.Proofs.YtmhimmodigeeiaaW.PrintMore
attribute [local go_sem] max2_int min2_int max_two min_two max_three min_three max_four min_four
set_option linter.unusedVariables false
set_option linter.unusedSimpArgs false
set_option maxHeartbeats 8000000
set_option maxRecDepth 100000
section
attribute [local go_sem high] eqA24
mutual
def cohousinglaw05_PiecewiseMatchesReference.j0 : Nat → List (S51) → List (S51) → Int → Bool → Bool → Int → Int → Int → Int → Option (Bool)
 | 0, _, _, _, _, _, _, _, _, _ => none
 | k + 1, x0, x1, x3, x11, x34, x482000, x482001, x483000, x483001 => if x34 = true then (some x11) else ((piecewise_At.f k x0 x3).bind fun bt486 => ((cohousingref05_At.f k x0 x3).bind fun bt490 => (if x11 = true then ((piecewise_Valid.f k x0).bind fun t494 => ((cohousingref05_Valid.f k x0).bind fun t495 => (if (t494 == t495) = true then (if (bt486.1 == bt490.1 && (bt486.2.1 == bt490.2.1)) = true then (cohousinglaw05_PiecewiseMatchesReference.j1 k x0 x1 (bt486.2.2 == bt490.2.2) x482000 x482001 x483000 x483001) else (cohousinglaw05_PiecewiseMatchesReference.j1 k x0 x1 false x482000 x482001 x483000 x483001)) else (cohousinglaw05_PiecewiseMatchesReference.j1 k x0 x1 false x482000 x482001 x483000 x483001)))) else (cohousinglaw05_PiecewiseMatchesReference.j1 k x0 x1 false x482000 x482001 x483000 x483001))))
def cohousinglaw05_PiecewiseMatchesReference.j1 : Nat → List (S51) → List (S51) → Bool → Int → Int → Int → Int → Option (Bool)
 | 0, _, _, _, _, _, _, _ => none
 | k + 1, x0, x1, x11, x482000, x482001, x483000, x483001 => (piecewise_Add.f x0 x1).bind fun bt496 => ((cohousingref05_Add.f k x0 x1).bind fun bt500 => (if x11 = true then ((cohousingref05_Same.f k bt496.1 bt500.1).bind fun t504 => (if t504 = true then (cohousinglaw05_PiecewiseMatchesReference.j2 k x0 x1 (bt496.2 == bt500.2) x482000 x482001 x483000 x483001) else (cohousinglaw05_PiecewiseMatchesReference.j2 k x0 x1 false x482000 x482001 x483000 x483001))) else (cohousinglaw05_PiecewiseMatchesReference.j2 k x0 x1 false x482000 x482001 x483000 x483001)))
def cohousinglaw05_PiecewiseMatchesReference.j2 : Nat → List (S51) → List (S51) → Bool → Int → Int → Int → Int → Option (Bool)
 | 0, _, _, _, _, _, _, _ => none
 | k + 1, x0, x1, x11, x482000, x482001, x483000, x483001 => (piecewise_Scale.f k x0 x482000 x482001).bind fun bt505 => ((cohousingref05_Scale.f k x0 x482000 x482001).bind fun bt509 => (if x11 = true then ((cohousingref05_Same.f k bt505.1 bt509.1).bind fun t513 => (if t513 = true then (cohousinglaw05_PiecewiseMatchesReference.j3 k x0 x1 (bt505.2 == bt509.2) x483000 x483001) else (cohousinglaw05_PiecewiseMatchesReference.j3 k x0 x1 false x483000 x483001))) else (cohousinglaw05_PiecewiseMatchesReference.j3 k x0 x1 false x483000 x483001)))
def cohousinglaw05_PiecewiseMatchesReference.j3 : Nat → List (S51) → List (S51) → Bool → Int → Int → Option (Bool)
 | 0, _, _, _, _, _ => none
 | k + 1, x0, x1, x11, x483000, x483001 => (piecewise_Least.f x0 x1).bind fun bt514 => ((cohousingref05_Least.f k x0 x1).bind fun bt518 => (if x11 = true then ((cohousingref05_Same.f k bt514.1 bt518.1).bind fun t522 => (if t522 = true then ((piecewise_Below.f x0 x1 x483000 x483001).bind fun bt523 => ((cohousingref05_Below.f k x0 x1 x483000 x483001).bind fun bt526 => (if bt514.2 = bt518.2 then (if bt523.1 = bt526.1 then (if (bt523.2.1 == bt526.2.1) = true then (some (bt523.2.2 == bt526.2.2)) else (some false)) else (some false)) else (some false)))) else ((piecewise_Below.f x0 x1 x483000 x483001).bind fun bt529 => ((cohousingref05_Below.f k x0 x1 x483000 x483001).bind fun bt532 => (some false))))) else ((piecewise_Below.f x0 x1 x483000 x483001).bind fun bt535 => ((cohousingref05_Below.f k x0 x1 x483000 x483001).bind fun bt538 => (some false)))))
end
def cohousinglaw05_PiecewiseMatchesReference.f (k : Nat) (l0 : List (S51)) (l1 : List (S51)) (a2_0 : Int) (a2_1 : Int) (a3 : Int) (a4_0 : Int) (a4_1 : Int) : Option (Bool) := (cohousinglaw05_head.f k).bind fun t483 => ((cohousinglaw05_few.f l0).bind fun t484 => (if t484 = true then ((cohousinglaw05_few.f l1).bind fun t485 => (cohousinglaw05_PiecewiseMatchesReference.j0 k l0 l1 a3 t483 (!t485) a2_0 a2_1 a4_0 a4_1)) else (cohousinglaw05_PiecewiseMatchesReference.j0 k l0 l1 a3 t483 true a2_0 a2_1 a4_0 a4_1)))
theorem cohousinglaw05_PiecewiseMatchesReference.no3 : ∀ k a b c d, cohousinglaw05_PiecewiseMatchesReference.j3 k a b false c d = some true → False := fun k a b c d h => by
 cases k with
 | zero => simp [cohousinglaw05_PiecewiseMatchesReference.j3] at h
 | succ k =>
  simp only [cohousinglaw05_PiecewiseMatchesReference.j3, Bool.false_eq_true, if_false] at h
  obtain ⟨_, _, h⟩ := Option.bind_eq_some_iff.1 h
  obtain ⟨_, _, h⟩ := Option.bind_eq_some_iff.1 h
  obtain ⟨_, _, h⟩ := Option.bind_eq_some_iff.1 h
  obtain ⟨_, _, h⟩ := Option.bind_eq_some_iff.1 h
  exact absurd (Option.some.inj h) (by decide)
theorem cohousinglaw05_PiecewiseMatchesReference.no2 : ∀ k a b c d e f, cohousinglaw05_PiecewiseMatchesReference.j2 k a b false c d e f = some true → False := fun k a b c d e f h => by
 cases k with
 | zero => simp [cohousinglaw05_PiecewiseMatchesReference.j2] at h
 | succ k =>
  simp only [cohousinglaw05_PiecewiseMatchesReference.j2, Bool.false_eq_true, if_false] at h
  obtain ⟨_, _, h⟩ := Option.bind_eq_some_iff.1 h
  obtain ⟨_, _, h⟩ := Option.bind_eq_some_iff.1 h
  exact cohousinglaw05_PiecewiseMatchesReference.no3 _ _ _ _ _ h
theorem cohousinglaw05_PiecewiseMatchesReference.no1 : ∀ k a b c d e f, cohousinglaw05_PiecewiseMatchesReference.j1 k a b false c d e f = some true → False := fun k a b c d e f h => by
 cases k with
 | zero => simp [cohousinglaw05_PiecewiseMatchesReference.j1] at h
 | succ k =>
  simp only [cohousinglaw05_PiecewiseMatchesReference.j1, Bool.false_eq_true, if_false] at h
  obtain ⟨_, _, h⟩ := Option.bind_eq_some_iff.1 h
  obtain ⟨_, _, h⟩ := Option.bind_eq_some_iff.1 h
  exact cohousinglaw05_PiecewiseMatchesReference.no2 _ _ _ _ _ _ _ h
theorem cohousinglaw05_PiecewiseMatchesReference.calls (k : Nat) (A0 : Option Addr) (c0 : Nat) (l0 : List (S51)) (A1 : Option Addr) (c1 : Nat) (l1 : List (S51)) (a2_0 : Int) (a2_1 : Int) (a3 : Int) (a4_0 : Int) (a4_1 : Int) (r : Bool) (w : World) (hr0 : Kd.C k51 w A0 l0.length l0) (hc0 : l0.length ≤ c0) (hr1 : Kd.C k51 w A1 l1.length l1) (hc1 : l1.length ≤ c1) (h : cohousinglaw05_PiecewiseMatchesReference.f k l0 l1 a2_0 a2_1 a3 a4_0 a4_1 = some r) (hr_ : r = true := by rfl) :
  Calls Try.prog 3 #[.slice A0 l0.length c0, .slice A1 l1.length c1, .agg #[.int .i64 a2_0, .int .i64 a2_1], .int .i64 a3, .agg #[.int .i64 a4_0, .int .i64 a4_1]] w fun e w' => e = .returned (.bool r) ∧ Below w.heap.size w w' := by
 subst hr_
 have hu24 := Try.underlying24
 have hu26 := Try.underlying26
 have HR0 := mk_ hr0
 have HC0 := mk_ hc0
 clear hr0 hc0
 have HR1 := mk_ hr1
 have HC1 := mk_ hc1
 clear hr1 hc1
 have HB := mk_ (Below.refl w.heap.size w)
 have H : ((cohousinglaw05_head.f k).bind fun t483 => ((cohousinglaw05_few.f l0).bind fun t484 => (if t484 = true then ((cohousinglaw05_few.f l1).bind fun t485 => (cohousinglaw05_PiecewiseMatchesReference.j0 k l0 l1 a3 t483 (!t485) a2_0 a2_1 a4_0 a4_1)) else (cohousinglaw05_PiecewiseMatchesReference.j0 k l0 l1 a3 t483 true a2_0 a2_1 a4_0 a4_1)))) = some true := h
 clear h
 replace H := Option.bind_eq_some_iff.mp H
 obtain ⟨t483, A60, H⟩ := H
 replace H : ((cohousinglaw05_few.f l0).bind fun t484 => (if t484 = true then ((cohousinglaw05_few.f l1).bind fun t485 => (cohousinglaw05_PiecewiseMatchesReference.j0 k l0 l1 a3 t483 (!t485) a2_0 a2_1 a4_0 a4_1)) else (cohousinglaw05_PiecewiseMatchesReference.j0 k l0 l1 a3 t483 true a2_0 a2_1 a4_0 a4_1))) = some true := H
 have A6 := mk_ A60
 clear A60
 have HC7 := mk_ H
 clear H
 go_enter Try.func3, Try.ntmps3
 go_upto_region 2 with (first | ((with_reducible refine gate_dst (N := 7) rfl ?_); refine box_event ?hg (N := 7) ?hd (cs := #[.int .i64 a2_0, .int .i64 a2_1]) (t := 24) ?hr ?_; (case hd => rfl); (case hg => rfl); (case hr => first | (go_simp; done) | (go_simp; rfl)); intro gb481 hg w8 hbox hb; have BK481 := mk_ (hbox); have GW481 := mk_ (bz_ hg (bb_ HB)); have GE481 := mk_ (bz_ hg (bb_ HB)); replace HB := mk_ (below_step (bb_ HB) hb); clear hb hbox hg) | ((with_reducible refine gate_dst (N := 9) rfl ?_); refine box_event ?hg (N := 9) ?hd (cs := #[.int .i64 a4_0, .int .i64 a4_1]) (t := 26) ?hr ?_; (case hd => rfl); (case hg => rfl); (case hr => first | (go_simp; done) | (go_simp; rfl)); intro gb482 hg w9 hbox hb; have BK482 := mk_ (hbox); have GW482 := mk_ (bz_ hg (bs_ HB GE481.out)); have GE482 := mk_ (bz_ hg (bs_ HB GE481.out)); replace HB := mk_ (below_step (bs_ HB GE481.out) hb); have NB481_482 := mk_ (bl_ hg (kk_ BK481)); have NB482_481 := mk_ (bg_ hg (kk_ BK481)); replace BK481 := mk_ (blk_below (kk_ BK481) hb); clear hb hbox hg) | ((with_reducible refine gate_callee (f := 10) rfl ?_); refine gl_ (some 26) Try.func10 #[] ?_; (with_reducible refine (cohousinglaw05_head.calls k  t483 _ A6.out).mono ?_); rintro e w10 ⟨rfl, hb⟩; refine ⟨_, rfl, ?_⟩; replace BK481 := mk_ (blk_below (kk_ BK481) hb); replace BK482 := mk_ (blk_below (kk_ BK482) hb); replace HB := mk_ (below_step (bs2_ HB GE481 GE482) hb); (try clear hb)))
 (try simp only [Act.put, sI_, s0_, sS_])
 go_cut [34] (fun v34 wc => ∃ (kq : Nat) (x34_6 : Bool), v34 = .bool x34_6 ∧ Aside0 (cohousinglaw05_PiecewiseMatchesReference.j0 kq l0 l1 a3 t483 x34_6 a2_0 a2_1 a4_0 a4_1 = some true) ∧ Aside0 (kq ≤ k) ∧ Aside0 (wc.heap[gb481]? = some (.cells #[.int .i64 a2_0, .int .i64 a2_1] 24 (0, 0))) ∧ Aside0 (wc.heap[gb482]? = some (.cells #[.int .i64 a4_0, .int .i64 a4_1] 26 (0, 0))) ∧ Aside0 (Below w.heap.size w wc))
 case first =>
  have H := HC7.out
  clear HC7
  replace H := Option.bind_eq_some_iff.mp H
  obtain ⟨t484, A110, H⟩ := H
  replace H : (if t484 = true then ((cohousinglaw05_few.f l1).bind fun t485 => (cohousinglaw05_PiecewiseMatchesReference.j0 k l0 l1 a3 t483 (!t485) a2_0 a2_1 a4_0 a4_1)) else (cohousinglaw05_PiecewiseMatchesReference.j0 k l0 l1 a3 t483 true a2_0 a2_1 a4_0 a4_1)) = some true := H
  have A11 := mk_ A110
  clear A110
  by_cases c12 : t484 = true
  rotate_left
  ·replace c12 := Bool.eq_false_iff.mpr c12
   subst c12
   have H1 : (cohousinglaw05_PiecewiseMatchesReference.j0 k l0 l1 a3 t483 true a2_0 a2_1 a4_0 a4_1) = some true := by rw [if_neg (show ¬ (false = true) by decide)] at H; exact H
   clear H
   have H := H1
   clear H1
   have H' := mk_ H
   clear H
   go_wp2_with (first | ((with_reducible refine gate_callee (f := 11) rfl ?_); refine gl_ (some 28) Try.func11 #[.slice A0 l0.length c0] ?_; (with_reducible refine (cohousinglaw05_few.calls _ _ l0 false _ ?side1 ?side2 A11.out).mono ?_); (case side1 => exact cc_ ((Kd.C_below HR0.out HB.out))); (case side2 => exact HC0.out); rintro e w' ⟨rfl, ⟨nd, rfl⟩⟩; refine ⟨_, rfl, ?_⟩))
   go_meet
   case rel => exact ⟨_, (true), sd_, H', ⟨by first | omega | exact Nat.le_refl _⟩, ⟨kk_ BK481⟩, ⟨kk_ BK482⟩, ⟨bs2_ HB GE481 GE482⟩⟩
  subst c12
  have H1 : ((cohousinglaw05_few.f l1).bind fun t485 => (cohousinglaw05_PiecewiseMatchesReference.j0 k l0 l1 a3 t483 (!t485) a2_0 a2_1 a4_0 a4_1)) = some true := by rw [if_pos rfl] at H; exact H
  clear H
  have H := H1
  clear H1
  replace H := Option.bind_eq_some_iff.mp H
  obtain ⟨t485, A130, H⟩ := H
  replace H : (cohousinglaw05_PiecewiseMatchesReference.j0 k l0 l1 a3 t483 (!t485) a2_0 a2_1 a4_0 a4_1) = some true := H
  have A13 := mk_ A130
  clear A130
  have H' := mk_ H
  clear H
  go_wp2_with (first | ((with_reducible refine gate_callee (f := 11) rfl ?_); refine gl_ (some 28) Try.func11 #[.slice A0 l0.length c0] ?_; (with_reducible refine (cohousinglaw05_few.calls _ _ l0 true _ ?side1 ?side2 A11.out).mono ?_); (case side1 => exact cc_ ((Kd.C_below HR0.out HB.out))); (case side2 => exact HC0.out); rintro e w' ⟨rfl, ⟨nd, rfl⟩⟩; refine ⟨_, rfl, ?_⟩) | (go_at_call 11; (with_reducible refine (cohousinglaw05_few.calls _ _ l1 t485 _ ?side1 ?side2 A13.out).mono ?_); (case side1 => repeat (first | exact (Kd.C_below HR1.out (bs2_ HB GE481 GE482)) | (with_reducible refine Kd.C_alloc ?_ _) | (with_reducible refine Kd.C_drewN ?_ _) | (with_reducible refine Kd.C_drew ?_))); (case side2 => exact HC1.out); rintro e w' ⟨rfl, ⟨nd, rfl⟩⟩))
  go_meet
  case rel => exact ⟨_, (!t485), sd_, H', ⟨by first | omega | exact Nat.le_refl _⟩, ⟨kk_ BK481⟩, ⟨kk_ BK482⟩, ⟨bs2_ HB GE481 GE482⟩⟩
 case rest =>
  clear HC7
  obtain ⟨kq, x34_6, rfl, HA, HJ6, BK481, BK482, HB⟩ := hcut
  cases kq with
  | zero => exact absurd HA.out (by simp [cohousinglaw05_PiecewiseMatchesReference.j0])
  | succ kj6 =>
   have H := HA.out
   clear HA
   simp only [cohousinglaw05_PiecewiseMatchesReference.j0] at H
   by_cases c14 : x34_6 = true
   ·subst c14
    have H1 : (some t483) = some true := by rw [if_pos rfl] at H; exact H
    clear H
    have H := H1
    clear H1
    have hfin_ := Option.some.inj H
    go_wp2
    go_ret
    exact ⟨ew_, bs2_ HB GE481 GE482⟩
   replace c14 := Bool.eq_false_iff.mpr c14
   subst c14
   have H1 : ((piecewise_At.f kj6 l0 a3).bind fun bt486 => ((cohousingref05_At.f kj6 l0 a3).bind fun bt490 => (if t483 = true then ((piecewise_Valid.f kj6 l0).bind fun t494 => ((cohousingref05_Valid.f kj6 l0).bind fun t495 => (if (t494 == t495) = true then (if (bt486.1 == bt490.1 && (bt486.2.1 == bt490.2.1)) = true then (cohousinglaw05_PiecewiseMatchesReference.j1 kj6 l0 l1 (bt486.2.2 == bt490.2.2) a2_0 a2_1 a4_0 a4_1) else (cohousinglaw05_PiecewiseMatchesReference.j1 kj6 l0 l1 false a2_0 a2_1 a4_0 a4_1)) else (cohousinglaw05_PiecewiseMatchesReference.j1 kj6 l0 l1 false a2_0 a2_1 a4_0 a4_1)))) else (cohousinglaw05_PiecewiseMatchesReference.j1 kj6 l0 l1 false a2_0 a2_1 a4_0 a4_1)))) = some true := by rw [if_neg (show ¬ (false = true) by decide)] at H; exact H
   clear H
   have H := H1
   clear H1
   replace H := Option.bind_eq_some_iff.mp H
   obtain ⟨⟨t486, t487, t488⟩, A150, H⟩ := H
   replace H : ((cohousingref05_At.f kj6 l0 a3).bind fun bt490 => (if t483 = true then ((piecewise_Valid.f kj6 l0).bind fun t494 => ((cohousingref05_Valid.f kj6 l0).bind fun t495 => (if (t494 == t495) = true then (if (t486 == bt490.1 && (t487 == bt490.2.1)) = true then (cohousinglaw05_PiecewiseMatchesReference.j1 kj6 l0 l1 (t488 == bt490.2.2) a2_0 a2_1 a4_0 a4_1) else (cohousinglaw05_PiecewiseMatchesReference.j1 kj6 l0 l1 false a2_0 a2_1 a4_0 a4_1)) else (cohousinglaw05_PiecewiseMatchesReference.j1 kj6 l0 l1 false a2_0 a2_1 a4_0 a4_1)))) else (cohousinglaw05_PiecewiseMatchesReference.j1 kj6 l0 l1 false a2_0 a2_1 a4_0 a4_1))) = some true := H
   have A15 := mk_ A150
   clear A150
   replace H := Option.bind_eq_some_iff.mp H
   obtain ⟨⟨t490, t491, t492⟩, A160, H⟩ := H
   replace H : (if t483 = true then ((piecewise_Valid.f kj6 l0).bind fun t494 => ((cohousingref05_Valid.f kj6 l0).bind fun t495 => (if (t494 == t495) = true then (if (t486 == t490 && (t487 == t491)) = true then (cohousinglaw05_PiecewiseMatchesReference.j1 kj6 l0 l1 (t488 == t492) a2_0 a2_1 a4_0 a4_1) else (cohousinglaw05_PiecewiseMatchesReference.j1 kj6 l0 l1 false a2_0 a2_1 a4_0 a4_1)) else (cohousinglaw05_PiecewiseMatchesReference.j1 kj6 l0 l1 false a2_0 a2_1 a4_0 a4_1)))) else (cohousinglaw05_PiecewiseMatchesReference.j1 kj6 l0 l1 false a2_0 a2_1 a4_0 a4_1)) = some true := H
   have A16 := mk_ A160
   clear A160
   have HC17 := mk_ H
   clear H
   go_upto_region 6 with (first | ((with_reducible refine gate_callee (f := 12) rfl ?_); refine gl_ (some 39) Try.func12 #[.slice A0 l0.length c0, .int .i64 a3] ?_; (with_reducible refine (piecewise_At.calls kj6 _ _ l0 a3 t486 t487 t488 _ ?side1 ?side2 A15.out).mono ?_); (case side1 => exact cc_ ((Kd.C_below HR0.out HB.out))); (case side2 => exact HC0.out); rintro e w18 ⟨rfl, hb⟩; refine ⟨_, rfl, ?_⟩; replace BK481 := mk_ (blk_below (kk_ BK481) hb); replace BK482 := mk_ (blk_below (kk_ BK482) hb); replace HB := mk_ (below_step (bs2_ HB GE481 GE482) hb); (try clear hb)) | ((with_reducible refine gate_dst (N := 12) rfl ?_); refine box_event ?hg (N := 12) ?hd (cs := #[.int .i64 0, .int .i64 0]) (t := 24) ?hr ?_; (case hd => rfl); (case hg => rfl); (case hr => first | (go_simp; done) | (go_simp; rfl)); intro gb489 hg w19 hbox hb; have BK489 := mk_ (hbox); have GW489 := mk_ (bz_ hg (bs2_ HB GE481 GE482)); have GE489 := mk_ (bz_ hg (bs2_ HB GE481 GE482)); replace HB := mk_ (below_step (bs2_ HB GE481 GE482) hb); have NB481_489 := mk_ (bl_ hg (kk_ BK481)); have NB489_481 := mk_ (bg_ hg (kk_ BK481)); replace BK481 := mk_ (blk_below (kk_ BK481) hb); have NB482_489 := mk_ (bl_ hg (kk_ BK482)); have NB489_482 := mk_ (bg_ hg (kk_ BK482)); replace BK482 := mk_ (blk_below (kk_ BK482) hb); clear hb hbox hg; have hnb20 := NB489_481.out; have hnc20 := NB481_489.out; have hnb21 := NB489_482.out; have hnc21 := NB482_489.out; have hcz22_0 := bc0_ BK489.out; have hcz22_1 := bc1_ BK489.out; have hfz22_0 := blk_frozen BK489.out 0; have hfz22_1 := blk_frozen BK489.out 1) | ((with_reducible refine gate_callee (f := 13) rfl ?_); refine gl_ (some 45) Try.func13 #[.slice A0 l0.length c0, .int .i64 a3] ?_; (with_reducible refine (cohousingref05_At.calls kj6 _ _ l0 a3 t490 t491 t492 _ ?side1 ?side2 A16.out).mono ?_); (case side1 => exact Kd.C_below HR0.out (bs3_ HB GE481 GE482 GE489)); (case side2 => exact HC0.out); rintro e w23 ⟨rfl, hb⟩; refine ⟨_, rfl, ?_⟩; replace BK481 := mk_ (blk_below (g := gb481) (o := .cells #[.int .i64 a2_0, .int .i64 a2_1] 24 (0, 0)) (by (with_reducible repeat (first | refine blk_drewN ?_ _ | refine blk_drew ?_ | refine blk_alloc ?_ _)); refine blk_far ?_ NB481_489.out _; (with_reducible repeat (first | refine blk_drewN ?_ _ | refine blk_drew ?_ | refine blk_alloc ?_ _)); refine blk_far ?_ NB481_489.out _; (with_reducible repeat (first | refine blk_drewN ?_ _ | refine blk_drew ?_ | refine blk_alloc ?_ _)); exact BK481.out) hb); replace BK482 := mk_ (blk_below (g := gb482) (o := .cells #[.int .i64 a4_0, .int .i64 a4_1] 26 (0, 0)) (by (with_reducible repeat (first | refine blk_drewN ?_ _ | refine blk_drew ?_ | refine blk_alloc ?_ _)); refine blk_far ?_ NB482_489.out _; (with_reducible repeat (first | refine blk_drewN ?_ _ | refine blk_drew ?_ | refine blk_alloc ?_ _)); refine blk_far ?_ NB482_489.out _; (with_reducible repeat (first | refine blk_drewN ?_ _ | refine blk_drew ?_ | refine blk_alloc ?_ _)); exact BK482.out) hb); replace BK489 := mk_ (blk_below (g := gb489) (o := .cells #[.int .i64 t486, .int .i64 t487] 24 (0, 0)) (by (with_reducible repeat (first | refine blk_drewN ?_ _ | refine blk_drew ?_ | refine blk_alloc ?_ _)); refine blk_put (cs := #[.int .i64 t486, .int .i64 0]) ?_ 1 _ rfl; (with_reducible repeat (first | refine blk_drewN ?_ _ | refine blk_drew ?_ | refine blk_alloc ?_ _)); refine blk_put (cs := #[.int .i64 0, .int .i64 0]) ?_ 0 _ rfl; (with_reducible repeat (first | refine blk_drewN ?_ _ | refine blk_drew ?_ | refine blk_alloc ?_ _)); exact BK489.out) hb); replace HB := mk_ (below_step (bs3_ HB GE481 GE482 GE489) hb); (try clear hb)) | ((with_reducible refine gate_dst (N := 14) rfl ?_); refine box_event ?hg (N := 14) ?hd (cs := #[.int .i64 0, .int .i64 0]) (t := 24) ?hr ?_; (case hd => rfl); (case hg => rfl); (case hr => first | (go_simp; done) | (go_simp; rfl)); intro gb493 hg w24 hbox hb; have BK493 := mk_ (hbox); have GW493 := mk_ (bz_ hg (bs3_ HB GE481 GE482 GE489)); have GE493 := mk_ (bz_ hg (bs3_ HB GE481 GE482 GE489)); replace HB := mk_ (below_step (bs3_ HB GE481 GE482 GE489) hb); have NB481_493 := mk_ (bl_ hg (kk_ BK481)); have NB493_481 := mk_ (bg_ hg (kk_ BK481)); replace BK481 := mk_ (blk_below (kk_ BK481) hb); have NB482_493 := mk_ (bl_ hg (kk_ BK482)); have NB493_482 := mk_ (bg_ hg (kk_ BK482)); replace BK482 := mk_ (blk_below (kk_ BK482) hb); have NB489_493 := mk_ (bl_ hg (kk_ BK489)); have NB493_489 := mk_ (bg_ hg (kk_ BK489)); replace BK489 := mk_ (blk_below (kk_ BK489) hb); clear hb hbox hg; have hnb25 := NB493_481.out; have hnc25 := NB481_493.out; have hnb26 := NB493_482.out; have hnc26 := NB482_493.out; have hnb27 := NB493_489.out; have hnc27 := NB489_493.out; have hcz28_0 := bc0_ BK493.out; have hcz28_1 := bc1_ BK493.out; have hfz28_0 := blk_frozen BK493.out 0; have hfz28_1 := blk_frozen BK493.out 1))
   (try simp only [Act.put, sI_, s0_, sS_])
   go_cut [11] (fun v11 wc => ∃ (kq : Nat) (x11_16 : Bool), v11 = .bool x11_16 ∧ Aside0 (cohousinglaw05_PiecewiseMatchesReference.j1 kq l0 l1 x11_16 a2_0 a2_1 a4_0 a4_1 = some true) ∧ Aside0 (kq ≤ kj6) ∧ Aside0 (wc.heap[gb481]? = some (.cells #[.int .i64 a2_0, .int .i64 a2_1] 24 (0, 0))) ∧ Aside0 (wc.heap[gb482]? = some (.cells #[.int .i64 a4_0, .int .i64 a4_1] 26 (0, 0))) ∧ Aside0 (wc.heap[gb489]? = some (.cells #[.int .i64 t486, .int .i64 t487] 24 (0, 0))) ∧ Aside0 (wc.heap[gb493]? = some (.cells #[.int .i64 t490, .int .i64 t491] 24 (0, 0))) ∧ Aside0 (Below w.heap.size w wc))
   case first =>
    have H := HC17.out
    clear HC17
    by_cases c29 : t483 = true
    rotate_left
    ·replace c29 := Bool.eq_false_iff.mpr c29
     subst c29
     have H1 : (cohousinglaw05_PiecewiseMatchesReference.j1 kj6 l0 l1 false a2_0 a2_1 a4_0 a4_1) = some true := by rw [if_neg (show ¬ (false = true) by decide)] at H; exact H
     clear H
     have H := H1
     clear H1
     exact (cohousinglaw05_PiecewiseMatchesReference.no1 _ _ _ _ _ _ _ H).elim
    subst c29
    have H1 : ((piecewise_Valid.f kj6 l0).bind fun t494 => ((cohousingref05_Valid.f kj6 l0).bind fun t495 => (if (t494 == t495) = true then (if (t486 == t490 && (t487 == t491)) = true then (cohousinglaw05_PiecewiseMatchesReference.j1 kj6 l0 l1 (t488 == t492) a2_0 a2_1 a4_0 a4_1) else (cohousinglaw05_PiecewiseMatchesReference.j1 kj6 l0 l1 false a2_0 a2_1 a4_0 a4_1)) else (cohousinglaw05_PiecewiseMatchesReference.j1 kj6 l0 l1 false a2_0 a2_1 a4_0 a4_1)))) = some true := by rw [if_pos rfl] at H; exact H
    clear H
    have H := H1
    clear H1
    replace H := Option.bind_eq_some_iff.mp H
    obtain ⟨t494, A300, H⟩ := H
    replace H : ((cohousingref05_Valid.f kj6 l0).bind fun t495 => (if (t494 == t495) = true then (if (t486 == t490 && (t487 == t491)) = true then (cohousinglaw05_PiecewiseMatchesReference.j1 kj6 l0 l1 (t488 == t492) a2_0 a2_1 a4_0 a4_1) else (cohousinglaw05_PiecewiseMatchesReference.j1 kj6 l0 l1 false a2_0 a2_1 a4_0 a4_1)) else (cohousinglaw05_PiecewiseMatchesReference.j1 kj6 l0 l1 false a2_0 a2_1 a4_0 a4_1))) = some true := H
    have A30 := mk_ A300
    clear A300
    replace H := Option.bind_eq_some_iff.mp H
    obtain ⟨t495, A310, H⟩ := H
    replace H : (if (t494 == t495) = true then (if (t486 == t490 && (t487 == t491)) = true then (cohousinglaw05_PiecewiseMatchesReference.j1 kj6 l0 l1 (t488 == t492) a2_0 a2_1 a4_0 a4_1) else (cohousinglaw05_PiecewiseMatchesReference.j1 kj6 l0 l1 false a2_0 a2_1 a4_0 a4_1)) else (cohousinglaw05_PiecewiseMatchesReference.j1 kj6 l0 l1 false a2_0 a2_1 a4_0 a4_1)) = some true := H
    have A31 := mk_ A310
    clear A310
    by_cases c32 : (t494 == t495) = true
    rotate_left
    ·rw [if_neg c32] at H
     have c32b0 : (t494 == t495) = false := by simpa using c32
     (try (have c32b1 : decide (t494 = t495) = false := by simpa using c32))
     (try (have c32b2 : (t494 == t495) = false := by simpa using c32))
     (try (have c32b3 : ¬ (t494 = t495) := by simpa using c32))
     clear c32
     (first | rw [c32b0] | (simp only [i64_w, i32_w]; rw [c32b0]) | skip)
     exact (cohousinglaw05_PiecewiseMatchesReference.no1 _ _ _ _ _ _ _ H).elim
    rw [if_pos c32] at H
    have c32b0 : (t494 == t495) = true := c32
    (try (have c32b1 : decide (t494 = t495) = true := by simpa using c32))
    (try (have c32b2 : (t494 == t495) = true := by simpa using c32))
    clear c32
    (first | rw [c32b0] | (simp only [i64_w, i32_w]; rw [c32b0]) | skip)
    by_cases c33 : (t486 == t490 && (t487 == t491)) = true
    rotate_left
    ·rw [if_neg c33] at H
     have c33b0 : (t486 == t490 && (t487 == t491)) = false := by simpa using c33
     (try (have c33b1 : decide (t486 = t490 && (t487 == t491)) = false := by simpa using c33))
     (try (have c33b2 : (t486 == t490 && (t487 == t491)) = false := by simpa using c33))
     (try (have c33b3 : ¬ (t486 = t490 && (t487 == t491)) := by simpa using c33))
     clear c33
     exact (cohousinglaw05_PiecewiseMatchesReference.no1 _ _ _ _ _ _ _ H).elim
    rw [if_pos c33] at H
    have c33b0 : (t486 == t490 && (t487 == t491)) = true := c33
    (try (have c33b1 : decide (t486 = t490 && (t487 == t491)) = true := by simpa using c33))
    (try (have c33b2 : (t486 == t490 && (t487 == t491)) = true := by simpa using c33))
    clear c33
    have H' := mk_ H
    clear H
    go_wp2_with (first | (go_at_call 14; (with_reducible refine (piecewise_Valid.calls kj6 _ _ l0 t494 _ ?side1 ?side2 A30.out).mono ?_); (case side1 => exact Kd.C_below HR0.out (bs4_ HB GE481 GE482 GE489 GE493)); (case side2 => exact HC0.out); rintro e w34 ⟨rfl, hb⟩; replace BK481 := mk_ (blk_below (g := gb481) (o := .cells #[.int .i64 a2_0, .int .i64 a2_1] 24 (0, 0)) (by (with_reducible repeat (first | refine blk_drewN ?_ _ | refine blk_drew ?_ | refine blk_alloc ?_ _)); refine blk_far ?_ NB481_493.out _; (with_reducible repeat (first | refine blk_drewN ?_ _ | refine blk_drew ?_ | refine blk_alloc ?_ _)); refine blk_far ?_ NB481_493.out _; (with_reducible repeat (first | refine blk_drewN ?_ _ | refine blk_drew ?_ | refine blk_alloc ?_ _)); exact BK481.out) hb); replace BK482 := mk_ (blk_below (g := gb482) (o := .cells #[.int .i64 a4_0, .int .i64 a4_1] 26 (0, 0)) (by (with_reducible repeat (first | refine blk_drewN ?_ _ | refine blk_drew ?_ | refine blk_alloc ?_ _)); refine blk_far ?_ NB482_493.out _; (with_reducible repeat (first | refine blk_drewN ?_ _ | refine blk_drew ?_ | refine blk_alloc ?_ _)); refine blk_far ?_ NB482_493.out _; (with_reducible repeat (first | refine blk_drewN ?_ _ | refine blk_drew ?_ | refine blk_alloc ?_ _)); exact BK482.out) hb); replace BK489 := mk_ (blk_below (g := gb489) (o := .cells #[.int .i64 t486, .int .i64 t487] 24 (0, 0)) (by (with_reducible repeat (first | refine blk_drewN ?_ _ | refine blk_drew ?_ | refine blk_alloc ?_ _)); refine blk_far ?_ NB489_493.out _; (with_reducible repeat (first | refine blk_drewN ?_ _ | refine blk_drew ?_ | refine blk_alloc ?_ _)); refine blk_far ?_ NB489_493.out _; (with_reducible repeat (first | refine blk_drewN ?_ _ | refine blk_drew ?_ | refine blk_alloc ?_ _)); exact BK489.out) hb); replace BK493 := mk_ (blk_below (g := gb493) (o := .cells #[.int .i64 t490, .int .i64 t491] 24 (0, 0)) (by (with_reducible repeat (first | refine blk_drewN ?_ _ | refine blk_drew ?_ | refine blk_alloc ?_ _)); refine blk_put (cs := #[.int .i64 t490, .int .i64 0]) ?_ 1 _ rfl; (with_reducible repeat (first | refine blk_drewN ?_ _ | refine blk_drew ?_ | refine blk_alloc ?_ _)); refine blk_put (cs := #[.int .i64 0, .int .i64 0]) ?_ 0 _ rfl; (with_reducible repeat (first | refine blk_drewN ?_ _ | refine blk_drew ?_ | refine blk_alloc ?_ _)); exact BK493.out) hb); replace HB := mk_ (below_step (bs4_ HB GE481 GE482 GE489 GE493) hb); (try clear hb)) | (go_at_call 15; (with_reducible refine (cohousingref05_Valid.calls kj6 _ _ l0 t495 _ ?side1 ?side2 A31.out).mono ?_); (case side1 => exact cc_ ((Kd.C_below HR0.out HB.out))); (case side2 => exact HC0.out); rintro e w35 ⟨rfl, hb⟩; replace BK481 := mk_ (blk_below (kk_ BK481) hb); replace BK482 := mk_ (blk_below (kk_ BK482) hb); replace BK489 := mk_ (blk_below (kk_ BK489) hb); replace BK493 := mk_ (blk_below (kk_ BK493) hb); replace HB := mk_ (below_step (bs4_ HB GE481 GE482 GE489 GE493) hb); (try clear hb); have hnb36 := NB489_481.out; have hnc36 := NB481_489.out; have hnb37 := NB489_482.out; have hnc37 := NB482_489.out; have hnb38 := NB489_493.out; have hnc38 := NB493_489.out; have hcz39_0 := bc0_ BK489.out; have hcz39_1 := bc1_ BK489.out; have hfz39_0 := blk_frozen BK489.out 0; have hfz39_1 := blk_frozen BK489.out 1; have hnb40 := NB493_481.out; have hnc40 := NB481_493.out; have hnb41 := NB493_482.out; have hnc41 := NB482_493.out; have hcz42_0 := bc0_ BK493.out; have hcz42_1 := bc1_ BK493.out; have hfz42_0 := blk_frozen BK493.out 0; have hfz42_1 := blk_frozen BK493.out 1))
    go_meet
    case rel => exact ⟨_, ((t488 == t492)), sd_, H', ⟨by have := HJ6.out; first | omega | exact Nat.le_refl _⟩, ⟨kk_ BK481⟩, ⟨kk_ BK482⟩, ⟨kk_ BK489⟩, ⟨kk_ BK493⟩, ⟨bs4_ HB GE481 GE482 GE489 GE493⟩⟩
   case rest =>
    clear HC17
    obtain ⟨kq, x11_16, rfl, HA, HJ16, BK481, BK482, BK489, BK493, HB⟩ := hcut
    cases kq with
    | zero => exact absurd HA.out (by simp [cohousinglaw05_PiecewiseMatchesReference.j1])
    | succ kj16 =>
     have H := HA.out
     clear HA
     simp only [cohousinglaw05_PiecewiseMatchesReference.j1] at H
     replace H := Option.bind_eq_some_iff.mp H
     obtain ⟨⟨t496, t497⟩, A540, H⟩ := H
     replace H : ((cohousingref05_Add.f kj16 l0 l1).bind fun bt500 => (if x11_16 = true then ((cohousingref05_Same.f kj16 t496 bt500.1).bind fun t504 => (if t504 = true then (cohousinglaw05_PiecewiseMatchesReference.j2 kj16 l0 l1 (t497 == bt500.2) a2_0 a2_1 a4_0 a4_1) else (cohousinglaw05_PiecewiseMatchesReference.j2 kj16 l0 l1 false a2_0 a2_1 a4_0 a4_1))) else (cohousinglaw05_PiecewiseMatchesReference.j2 kj16 l0 l1 false a2_0 a2_1 a4_0 a4_1))) = some true := H
     have A54 := mk_ A540
     clear A540
     replace H := Option.bind_eq_some_iff.mp H
     obtain ⟨⟨t500, t501⟩, A550, H⟩ := H
     replace H : (if x11_16 = true then ((cohousingref05_Same.f kj16 t496 t500).bind fun t504 => (if t504 = true then (cohousinglaw05_PiecewiseMatchesReference.j2 kj16 l0 l1 (t497 == t501) a2_0 a2_1 a4_0 a4_1) else (cohousinglaw05_PiecewiseMatchesReference.j2 kj16 l0 l1 false a2_0 a2_1 a4_0 a4_1))) else (cohousinglaw05_PiecewiseMatchesReference.j2 kj16 l0 l1 false a2_0 a2_1 a4_0 a4_1)) = some true := H
     have A55 := mk_ A550
     clear A550
     have HC56 := mk_ H
     clear H
     go_upto_region 9 with (first | ((with_reducible refine gate_callee (f := 16) rfl ?_); refine gl_ (some 69) Try.func16 #[.slice A0 l0.length c0, .slice A1 l1.length c1] ?_; (with_reducible refine (piecewise_Add.calls _ _ l0 _ _ l1 t496 t497 _ ?side1 ?side2 ?side3 ?side4 A54.out).mono ?_); (case side1 => exact cc_ ((Kd.C_below HR0.out HB.out))); (case side2 => exact HC0.out); (case side3 => exact cc_ ((Kd.C_below HR1.out HB.out))); (case side4 => exact HC1.out); rintro e w57 ⟨v498, rfl, ho0, hb⟩; refine ⟨_, rfl, ?_⟩; have HO499 := mk_ (Kd.R_lower ho0 (below_size (bs4_ HB GE481 GE482 GE489 GE493))); replace BK481 := mk_ (blk_below (kk_ BK481) hb); replace BK482 := mk_ (blk_below (kk_ BK482) hb); replace BK489 := mk_ (blk_below (kk_ BK489) hb); replace BK493 := mk_ (blk_below (kk_ BK493) hb); replace HB := mk_ (below_step (bs4_ HB GE481 GE482 GE489 GE493) hb); (try clear hb); (try clear ho0)) | ((with_reducible refine gate_callee (f := 17) rfl ?_); refine gl_ (some 75) Try.func17 #[.slice A0 l0.length c0, .slice A1 l1.length c1] ?_; (with_reducible refine (cohousingref05_Add.calls kj16 _ _ l0 _ _ l1 t500 t501 _ ?side1 ?side2 ?side3 ?side4 A55.out).mono ?_); (case side1 => exact cc_ ((Kd.C_below HR0.out HB.out))); (case side2 => exact HC0.out); (case side3 => exact cc_ ((Kd.C_below HR1.out HB.out))); (case side4 => exact HC1.out); rintro e w58 ⟨v502, rfl, ho0, hb⟩; refine ⟨_, rfl, ?_⟩; have HO503 := mk_ (Kd.R_lower (Kd.R_new' ho0 (Kd.R_lt (rr_ HO499))) (below_size (bs4_ HB GE481 GE482 GE489 GE493))); replace HO499 := mk_ (Kd.R_elder' (rr_ HO499) (Kd.R_base ho0) hb); replace BK481 := mk_ (blk_below (kk_ BK481) hb); replace BK482 := mk_ (blk_below (kk_ BK482) hb); replace BK489 := mk_ (blk_below (kk_ BK489) hb); replace BK493 := mk_ (blk_below (kk_ BK493) hb); replace HB := mk_ (below_step (bs4_ HB GE481 GE482 GE489 GE493) hb); (try clear hb); (try clear ho0)))
     (try simp only [Act.put, sI_, s0_, sS_])
     go_cut [11] (fun v11 wc => ∃ (kq : Nat) (x11_55 : Bool), v11 = .bool x11_55 ∧ Aside0 (cohousinglaw05_PiecewiseMatchesReference.j2 kq l0 l1 x11_55 a2_0 a2_1 a4_0 a4_1 = some true) ∧ Aside0 (kq ≤ kj16) ∧ Aside0 (wc.heap[gb481]? = some (.cells #[.int .i64 a2_0, .int .i64 a2_1] 24 (0, 0))) ∧ Aside0 (wc.heap[gb482]? = some (.cells #[.int .i64 a4_0, .int .i64 a4_1] 26 (0, 0))) ∧ Aside0 (wc.heap[gb489]? = some (.cells #[.int .i64 t486, .int .i64 t487] 24 (0, 0))) ∧ Aside0 (wc.heap[gb493]? = some (.cells #[.int .i64 t490, .int .i64 t491] 24 (0, 0))) ∧ Aside0 (Below w.heap.size w wc))
     case first =>
      have H := HC56.out
      clear HC56
      by_cases c59 : x11_16 = true
      rotate_left
      ·replace c59 := Bool.eq_false_iff.mpr c59
       subst c59
       have H1 : (cohousinglaw05_PiecewiseMatchesReference.j2 kj16 l0 l1 false a2_0 a2_1 a4_0 a4_1) = some true := by rw [if_neg (show ¬ (false = true) by decide)] at H; exact H
       clear H
       have H := H1
       clear H1
       exact (cohousinglaw05_PiecewiseMatchesReference.no2 _ _ _ _ _ _ _ H).elim
      subst c59
      have H1 : ((cohousingref05_Same.f kj16 t496 t500).bind fun t504 => (if t504 = true then (cohousinglaw05_PiecewiseMatchesReference.j2 kj16 l0 l1 (t497 == t501) a2_0 a2_1 a4_0 a4_1) else (cohousinglaw05_PiecewiseMatchesReference.j2 kj16 l0 l1 false a2_0 a2_1 a4_0 a4_1))) = some true := by rw [if_pos rfl] at H; exact H
      clear H
      have H := H1
      clear H1
      replace H := Option.bind_eq_some_iff.mp H
      obtain ⟨t504, A600, H⟩ := H
      replace H : (if t504 = true then (cohousinglaw05_PiecewiseMatchesReference.j2 kj16 l0 l1 (t497 == t501) a2_0 a2_1 a4_0 a4_1) else (cohousinglaw05_PiecewiseMatchesReference.j2 kj16 l0 l1 false a2_0 a2_1 a4_0 a4_1)) = some true := H
      have A60 := mk_ A600
      clear A600
      by_cases c61 : t504 = true
      rotate_left
      ·replace c61 := Bool.eq_false_iff.mpr c61
       subst c61
       have H1 : (cohousinglaw05_PiecewiseMatchesReference.j2 kj16 l0 l1 false a2_0 a2_1 a4_0 a4_1) = some true := by rw [if_neg (show ¬ (false = true) by decide)] at H; exact H
       clear H
       have H := H1
       clear H1
       exact (cohousinglaw05_PiecewiseMatchesReference.no2 _ _ _ _ _ _ _ H).elim
      subst c61
      have H1 : (cohousinglaw05_PiecewiseMatchesReference.j2 kj16 l0 l1 (t497 == t501) a2_0 a2_1 a4_0 a4_1) = some true := by rw [if_pos rfl] at H; exact H
      clear H
      have H := H1
      clear H1
      have H' := mk_ H
      clear H
      obtain ⟨Ao62, co62, eo62⟩ := Kd.R_slice HO499.out
      subst eo62
      obtain ⟨Ao63, co63, eo63⟩ := Kd.R_slice HO503.out
      subst eo63
      go_wp2_with (first | (go_at_call 18; (with_reducible refine (cohousingref05_Same.calls kj16 _ _ t496 _ _ t500 true _ ?side1 ?side2 ?side3 ?side4 A60.out).mono ?_); (case side1 => exact cc_ ((Kd.R_reads' HO499.out).2.2)); (case side2 => exact (Kd.R_reads' HO499.out).2.1); (case side3 => exact cc_ ((Kd.R_reads' HO503.out).2.2)); (case side4 => exact (Kd.R_reads' HO503.out).2.1); rintro e w' ⟨rfl, ⟨nd, rfl⟩⟩))
      go_meet
      case rel => exact ⟨_, ((t497 == t501)), sd_, H', ⟨by have := HJ6.out; have := HJ16.out; first | omega | exact Nat.le_refl _⟩, ⟨kk_ BK481⟩, ⟨kk_ BK482⟩, ⟨kk_ BK489⟩, ⟨kk_ BK493⟩, ⟨bs4_ HB GE481 GE482 GE489 GE493⟩⟩
     case rest =>
      clear HC56
      obtain ⟨kq, x11_55, rfl, HA, HJ55, BK481, BK482, BK489, BK493, HB⟩ := hcut
      cases kq with
      | zero => exact absurd HA.out (by simp [cohousinglaw05_PiecewiseMatchesReference.j2])
      | succ kj55 =>
       have H := HA.out
       clear HA
       simp only [cohousinglaw05_PiecewiseMatchesReference.j2] at H
       replace H := Option.bind_eq_some_iff.mp H
       obtain ⟨⟨t505, t508⟩, A660, H⟩ := H
       replace H : ((cohousingref05_Scale.f kj55 l0 a2_0 a2_1).bind fun bt509 => (if x11_55 = true then ((cohousingref05_Same.f kj55 t505 bt509.1).bind fun t513 => (if t513 = true then (cohousinglaw05_PiecewiseMatchesReference.j3 kj55 l0 l1 (t508 == bt509.2) a4_0 a4_1) else (cohousinglaw05_PiecewiseMatchesReference.j3 kj55 l0 l1 false a4_0 a4_1))) else (cohousinglaw05_PiecewiseMatchesReference.j3 kj55 l0 l1 false a4_0 a4_1))) = some true := H
       have A66 := mk_ A660
       clear A660
       replace H := Option.bind_eq_some_iff.mp H
       obtain ⟨⟨t509, t512⟩, A670, H⟩ := H
       replace H : (if x11_55 = true then ((cohousingref05_Same.f kj55 t505 t509).bind fun t513 => (if t513 = true then (cohousinglaw05_PiecewiseMatchesReference.j3 kj55 l0 l1 (t508 == t512) a4_0 a4_1) else (cohousinglaw05_PiecewiseMatchesReference.j3 kj55 l0 l1 false a4_0 a4_1))) else (cohousinglaw05_PiecewiseMatchesReference.j3 kj55 l0 l1 false a4_0 a4_1)) = some true := H
       have A67 := mk_ A670
       clear A670
       have HC68 := mk_ H
       clear H
       have hnb69 := NB481_482.out
       have hnc69 := NB482_481.out
       have hnb70 := NB481_489.out
       have hnc70 := NB489_481.out
       have hnb71 := NB481_493.out
       have hnc71 := NB493_481.out
       have hcz72_0 := bc0_ BK481.out
       have hcz72_1 := bc1_ BK481.out
       have hfz72_0 := blk_frozen BK481.out 0
       have hfz72_1 := blk_frozen BK481.out 1
       go_upto_region 12 with (first | ((with_reducible refine gate_callee (f := 19) rfl ?_); refine gl_ (some 92) Try.func19 #[.slice A0 l0.length c0, .agg #[.int .i64 a2_0, .int .i64 a2_1]] ?_; (with_reducible refine (piecewise_Scale.calls kj55 _ _ l0 a2_0 a2_1 t505 t508 _ ?side1 ?side2 A66.out).mono ?_); (case side1 => exact cc_ ((Kd.C_below HR0.out HB.out))); (case side2 => exact HC0.out); rintro e w73 ⟨v506, rfl, ho0, hb⟩; refine ⟨_, rfl, ?_⟩; have HO507 := mk_ (Kd.R_lower ho0 (below_size (bs4_ HB GE481 GE482 GE489 GE493))); replace BK481 := mk_ (blk_below (kk_ BK481) hb); replace BK482 := mk_ (blk_below (kk_ BK482) hb); replace BK489 := mk_ (blk_below (kk_ BK489) hb); replace BK493 := mk_ (blk_below (kk_ BK493) hb); replace HB := mk_ (below_step (bs4_ HB GE481 GE482 GE489 GE493) hb); (try clear hb); (try clear ho0); have hcz74_0 := bc0_ BK481.out; have hcz74_1 := bc1_ BK481.out; have hfz74_0 := blk_frozen BK481.out 0; have hfz74_1 := blk_frozen BK481.out 1) | ((with_reducible refine gate_callee (f := 20) rfl ?_); refine gl_ (some 98) Try.func20 #[.slice A0 l0.length c0, .agg #[.int .i64 a2_0, .int .i64 a2_1]] ?_; (with_reducible refine (cohousingref05_Scale.calls kj55 _ _ l0 a2_0 a2_1 t509 t512 _ ?side1 ?side2 A67.out).mono ?_); (case side1 => exact cc_ ((Kd.C_below HR0.out HB.out))); (case side2 => exact HC0.out); rintro e w75 ⟨v510, rfl, ho0, hb⟩; refine ⟨_, rfl, ?_⟩; have HO511 := mk_ (Kd.R_lower (Kd.R_new' ho0 (Kd.R_lt (rr_ HO507))) (below_size (bs4_ HB GE481 GE482 GE489 GE493))); replace HO507 := mk_ (Kd.R_elder' (rr_ HO507) (Kd.R_base ho0) hb); replace BK481 := mk_ (blk_below (kk_ BK481) hb); replace BK482 := mk_ (blk_below (kk_ BK482) hb); replace BK489 := mk_ (blk_below (kk_ BK489) hb); replace BK493 := mk_ (blk_below (kk_ BK493) hb); replace HB := mk_ (below_step (bs4_ HB GE481 GE482 GE489 GE493) hb); (try clear hb); (try clear ho0)))
       (try simp only [Act.put, sI_, s0_, sS_])
       go_cut [11] (fun v11 wc => ∃ (kq : Nat) (x11_67 : Bool), v11 = .bool x11_67 ∧ Aside0 (cohousinglaw05_PiecewiseMatchesReference.j3 kq l0 l1 x11_67 a4_0 a4_1 = some true) ∧ Aside0 (kq ≤ kj55) ∧ Aside0 (wc.heap[gb481]? = some (.cells #[.int .i64 a2_0, .int .i64 a2_1] 24 (0, 0))) ∧ Aside0 (wc.heap[gb482]? = some (.cells #[.int .i64 a4_0, .int .i64 a4_1] 26 (0, 0))) ∧ Aside0 (wc.heap[gb489]? = some (.cells #[.int .i64 t486, .int .i64 t487] 24 (0, 0))) ∧ Aside0 (wc.heap[gb493]? = some (.cells #[.int .i64 t490, .int .i64 t491] 24 (0, 0))) ∧ Aside0 (Below w.heap.size w wc))
       case first =>
        have H := HC68.out
        clear HC68
        by_cases c76 : x11_55 = true
        rotate_left
        ·replace c76 := Bool.eq_false_iff.mpr c76
         subst c76
         have H1 : (cohousinglaw05_PiecewiseMatchesReference.j3 kj55 l0 l1 false a4_0 a4_1) = some true := by rw [if_neg (show ¬ (false = true) by decide)] at H; exact H
         clear H
         have H := H1
         clear H1
         exact (cohousinglaw05_PiecewiseMatchesReference.no3 _ _ _ _ _ H).elim
        subst c76
        have H1 : ((cohousingref05_Same.f kj55 t505 t509).bind fun t513 => (if t513 = true then (cohousinglaw05_PiecewiseMatchesReference.j3 kj55 l0 l1 (t508 == t512) a4_0 a4_1) else (cohousinglaw05_PiecewiseMatchesReference.j3 kj55 l0 l1 false a4_0 a4_1))) = some true := by rw [if_pos rfl] at H; exact H
        clear H
        have H := H1
        clear H1
        replace H := Option.bind_eq_some_iff.mp H
        obtain ⟨t513, A770, H⟩ := H
        replace H : (if t513 = true then (cohousinglaw05_PiecewiseMatchesReference.j3 kj55 l0 l1 (t508 == t512) a4_0 a4_1) else (cohousinglaw05_PiecewiseMatchesReference.j3 kj55 l0 l1 false a4_0 a4_1)) = some true := H
        have A77 := mk_ A770
        clear A770
        by_cases c78 : t513 = true
        rotate_left
        ·replace c78 := Bool.eq_false_iff.mpr c78
         subst c78
         have H1 : (cohousinglaw05_PiecewiseMatchesReference.j3 kj55 l0 l1 false a4_0 a4_1) = some true := by rw [if_neg (show ¬ (false = true) by decide)] at H; exact H
         clear H
         have H := H1
         clear H1
         exact (cohousinglaw05_PiecewiseMatchesReference.no3 _ _ _ _ _ H).elim
        subst c78
        have H1 : (cohousinglaw05_PiecewiseMatchesReference.j3 kj55 l0 l1 (t508 == t512) a4_0 a4_1) = some true := by rw [if_pos rfl] at H; exact H
        clear H
        have H := H1
        clear H1
        have H' := mk_ H
        clear H
        obtain ⟨Ao79, co79, eo79⟩ := Kd.R_slice HO507.out
        subst eo79
        obtain ⟨Ao80, co80, eo80⟩ := Kd.R_slice HO511.out
        subst eo80
        go_wp2_with (first | (go_at_call 18; (with_reducible refine (cohousingref05_Same.calls kj55 _ _ t505 _ _ t509 true _ ?side1 ?side2 ?side3 ?side4 A77.out).mono ?_); (case side1 => exact cc_ ((Kd.R_reads' HO507.out).2.2)); (case side2 => exact (Kd.R_reads' HO507.out).2.1); (case side3 => exact cc_ ((Kd.R_reads' HO511.out).2.2)); (case side4 => exact (Kd.R_reads' HO511.out).2.1); rintro e w' ⟨rfl, ⟨nd, rfl⟩⟩))
        go_meet
        case rel => exact ⟨_, ((t508 == t512)), sd_, H', ⟨by have := HJ6.out; have := HJ16.out; have := HJ55.out; first | omega | exact Nat.le_refl _⟩, ⟨kk_ BK481⟩, ⟨kk_ BK482⟩, ⟨kk_ BK489⟩, ⟨kk_ BK493⟩, ⟨bs4_ HB GE481 GE482 GE489 GE493⟩⟩
       case rest =>
        clear HC68
        obtain ⟨kq, x11_67, rfl, HA, HJ67, BK481, BK482, BK489, BK493, HB⟩ := hcut
        cases kq with
        | zero => exact absurd HA.out (by simp [cohousinglaw05_PiecewiseMatchesReference.j3])
        | succ kj67 =>
         have H := HA.out
         clear HA
         simp only [cohousinglaw05_PiecewiseMatchesReference.j3] at H
         replace H := Option.bind_eq_some_iff.mp H
         obtain ⟨⟨t514, t515⟩, A830, H⟩ := H
         replace H : ((cohousingref05_Least.f kj67 l0 l1).bind fun bt518 => (if x11_67 = true then ((cohousingref05_Same.f kj67 t514 bt518.1).bind fun t522 => (if t522 = true then ((piecewise_Below.f l0 l1 a4_0 a4_1).bind fun bt523 => ((cohousingref05_Below.f kj67 l0 l1 a4_0 a4_1).bind fun bt526 => (if t515 = bt518.2 then (if bt523.1 = bt526.1 then (if (bt523.2.1 == bt526.2.1) = true then (some (bt523.2.2 == bt526.2.2)) else (some false)) else (some false)) else (some false)))) else ((piecewise_Below.f l0 l1 a4_0 a4_1).bind fun bt529 => ((cohousingref05_Below.f kj67 l0 l1 a4_0 a4_1).bind fun bt532 => (some false))))) else ((piecewise_Below.f l0 l1 a4_0 a4_1).bind fun bt535 => ((cohousingref05_Below.f kj67 l0 l1 a4_0 a4_1).bind fun bt538 => (some false))))) = some true := H
         have A83 := mk_ A830
         clear A830
         replace H := Option.bind_eq_some_iff.mp H
         obtain ⟨⟨t518, t519⟩, A840, H⟩ := H
         replace H : (if x11_67 = true then ((cohousingref05_Same.f kj67 t514 t518).bind fun t522 => (if t522 = true then ((piecewise_Below.f l0 l1 a4_0 a4_1).bind fun bt523 => ((cohousingref05_Below.f kj67 l0 l1 a4_0 a4_1).bind fun bt526 => (if t515 = t519 then (if bt523.1 = bt526.1 then (if (bt523.2.1 == bt526.2.1) = true then (some (bt523.2.2 == bt526.2.2)) else (some false)) else (some false)) else (some false)))) else ((piecewise_Below.f l0 l1 a4_0 a4_1).bind fun bt529 => ((cohousingref05_Below.f kj67 l0 l1 a4_0 a4_1).bind fun bt532 => (some false))))) else ((piecewise_Below.f l0 l1 a4_0 a4_1).bind fun bt535 => ((cohousingref05_Below.f kj67 l0 l1 a4_0 a4_1).bind fun bt538 => (some false)))) = some true := H
         have A84 := mk_ A840
         clear A840
         by_cases c85 : x11_67 = true
         rotate_left
         ·replace c85 := Bool.eq_false_iff.mpr c85
          subst c85
          have H1 : ((piecewise_Below.f l0 l1 a4_0 a4_1).bind fun bt535 => ((cohousingref05_Below.f kj67 l0 l1 a4_0 a4_1).bind fun bt538 => (some false))) = some true := by rw [if_neg (show ¬ (false = true) by decide)] at H; exact H
          clear H
          have H := H1
          clear H1
          replace H := Option.bind_eq_some_iff.mp H
          obtain ⟨⟨t535, t536, t537⟩, A1500, H⟩ := H
          replace H : ((cohousingref05_Below.f kj67 l0 l1 a4_0 a4_1).bind fun bt538 => (some false)) = some true := H
          have A150 := mk_ A1500
          clear A1500
          replace H := Option.bind_eq_some_iff.mp H
          obtain ⟨⟨t538, t539, t540⟩, A1510, H⟩ := H
          replace H : (some false) = some true := H
          have A151 := mk_ A1510
          clear A1510
          exact absurd (Option.some.inj H) (by decide)
         subst c85
         have H1 : ((cohousingref05_Same.f kj67 t514 t518).bind fun t522 => (if t522 = true then ((piecewise_Below.f l0 l1 a4_0 a4_1).bind fun bt523 => ((cohousingref05_Below.f kj67 l0 l1 a4_0 a4_1).bind fun bt526 => (if t515 = t519 then (if bt523.1 = bt526.1 then (if (bt523.2.1 == bt526.2.1) = true then (some (bt523.2.2 == bt526.2.2)) else (some false)) else (some false)) else (some false)))) else ((piecewise_Below.f l0 l1 a4_0 a4_1).bind fun bt529 => ((cohousingref05_Below.f kj67 l0 l1 a4_0 a4_1).bind fun bt532 => (some false))))) = some true := by rw [if_pos rfl] at H; exact H
         clear H
         have H := H1
         clear H1
         replace H := Option.bind_eq_some_iff.mp H
         obtain ⟨t522, A860, H⟩ := H
         replace H : (if t522 = true then ((piecewise_Below.f l0 l1 a4_0 a4_1).bind fun bt523 => ((cohousingref05_Below.f kj67 l0 l1 a4_0 a4_1).bind fun bt526 => (if t515 = t519 then (if bt523.1 = bt526.1 then (if (bt523.2.1 == bt526.2.1) = true then (some (bt523.2.2 == bt526.2.2)) else (some false)) else (some false)) else (some false)))) else ((piecewise_Below.f l0 l1 a4_0 a4_1).bind fun bt529 => ((cohousingref05_Below.f kj67 l0 l1 a4_0 a4_1).bind fun bt532 => (some false)))) = some true := H
         have A86 := mk_ A860
         clear A860
         by_cases c87 : t522 = true
         rotate_left
         ·replace c87 := Bool.eq_false_iff.mpr c87
          subst c87
          have H1 : ((piecewise_Below.f l0 l1 a4_0 a4_1).bind fun bt529 => ((cohousingref05_Below.f kj67 l0 l1 a4_0 a4_1).bind fun bt532 => (some false))) = some true := by rw [if_neg (show ¬ (false = true) by decide)] at H; exact H
          clear H
          have H := H1
          clear H1
          replace H := Option.bind_eq_some_iff.mp H
          obtain ⟨⟨t529, t530, t531⟩, A1370, H⟩ := H
          replace H : ((cohousingref05_Below.f kj67 l0 l1 a4_0 a4_1).bind fun bt532 => (some false)) = some true := H
          have A137 := mk_ A1370
          clear A1370
          replace H := Option.bind_eq_some_iff.mp H
          obtain ⟨⟨t532, t533, t534⟩, A1380, H⟩ := H
          replace H : (some false) = some true := H
          have A138 := mk_ A1380
          clear A1380
          exact absurd (Option.some.inj H) (by decide)
         subst c87
         have H1 : ((piecewise_Below.f l0 l1 a4_0 a4_1).bind fun bt523 => ((cohousingref05_Below.f kj67 l0 l1 a4_0 a4_1).bind fun bt526 => (if t515 = t519 then (if bt523.1 = bt526.1 then (if (bt523.2.1 == bt526.2.1) = true then (some (bt523.2.2 == bt526.2.2)) else (some false)) else (some false)) else (some false)))) = some true := by rw [if_pos rfl] at H; exact H
         clear H
         have H := H1
         clear H1
         replace H := Option.bind_eq_some_iff.mp H
         obtain ⟨⟨t523, t524, t525⟩, A880, H⟩ := H
         replace H : ((cohousingref05_Below.f kj67 l0 l1 a4_0 a4_1).bind fun bt526 => (if t515 = t519 then (if t523 = bt526.1 then (if (t524 == bt526.2.1) = true then (some (t525 == bt526.2.2)) else (some false)) else (some false)) else (some false))) = some true := H
         have A88 := mk_ A880
         clear A880
         replace H := Option.bind_eq_some_iff.mp H
         obtain ⟨⟨t526, t527, t528⟩, A890, H⟩ := H
         replace H : (if t515 = t519 then (if t523 = t526 then (if (t524 == t527) = true then (some (t525 == t528)) else (some false)) else (some false)) else (some false)) = some true := H
         have A89 := mk_ A890
         clear A890
         by_cases c90 : t515 = t519
         rotate_left
         ·rw [if_neg c90] at H
          have c90b0 : (t515 == t519) = false := beq_eq_false_iff_ne.mpr c90
          have c90b1 : (t515 != t519) = true := bne_iff_ne.mpr c90
          exact absurd (Option.some.inj H) (by decide)
         rw [if_pos c90] at H
         have c90b0 : (t515 == t519) = true := beq_iff_eq.mpr c90
         have c90b1 : (t515 != t519) = false := bne_eq_false_iff_eq.mpr c90
         clear c90
         by_cases c91 : t523 = t526
         rotate_left
         ·rw [if_neg c91] at H
          have c91b0 : (t523 == t526) = false := beq_eq_false_iff_ne.mpr c91
          have c91b1 : (t523 != t526) = true := bne_iff_ne.mpr c91
          exact absurd (Option.some.inj H) (by decide)
         rw [if_pos c91] at H
         have c91b0 : (t523 == t526) = true := beq_iff_eq.mpr c91
         have c91b1 : (t523 != t526) = false := bne_eq_false_iff_eq.mpr c91
         clear c91
         by_cases c92 : (t524 == t527) = true
         rotate_left
         ·rw [if_neg c92] at H
          have c92b0 : (t524 == t527) = false := by simpa using c92
          (try (have c92b1 : decide (t524 = t527) = false := by simpa using c92))
          (try (have c92b2 : (t524 == t527) = false := by simpa using c92))
          (try (have c92b3 : ¬ (t524 = t527) := by simpa using c92))
          clear c92
          exact absurd (Option.some.inj H) (by decide)
         rw [if_pos c92] at H
         have c92b0 : (t524 == t527) = true := c92
         (try (have c92b1 : decide (t524 = t527) = true := by simpa using c92))
         (try (have c92b2 : (t524 == t527) = true := by simpa using c92))
         clear c92
         have hfin_ := Option.some.inj H
         go_wp2_with (first | ((with_reducible refine gate_callee (f := 21) rfl ?_); refine gl_ (some 115) Try.func21 #[.slice A0 l0.length c0, .slice A1 l1.length c1] ?_; (with_reducible refine (piecewise_Least.calls _ _ l0 _ _ l1 t514 t515 _ ?side1 ?side2 ?side3 ?side4 A83.out).mono ?_); (case side1 => exact cc_ ((Kd.C_below HR0.out HB.out))); (case side2 => exact HC0.out); (case side3 => exact cc_ ((Kd.C_below HR1.out HB.out))); (case side4 => exact HC1.out); rintro e w93 ⟨v516, rfl, ho0, hb⟩; refine ⟨_, rfl, ?_⟩; have HO517 := mk_ (Kd.R_lower ho0 (below_size (bs4_ HB GE481 GE482 GE489 GE493))); replace BK481 := mk_ (blk_below (kk_ BK481) hb); replace BK482 := mk_ (blk_below (kk_ BK482) hb); replace BK489 := mk_ (blk_below (kk_ BK489) hb); replace BK493 := mk_ (blk_below (kk_ BK493) hb); replace HB := mk_ (below_step (bs4_ HB GE481 GE482 GE489 GE493) hb); (try clear hb); (try clear ho0)) | ((with_reducible refine gate_callee (f := 22) rfl ?_); refine gl_ (some 121) Try.func22 #[.slice A0 l0.length c0, .slice A1 l1.length c1] ?_; (with_reducible refine (cohousingref05_Least.calls kj67 _ _ l0 _ _ l1 t518 t519 _ ?side1 ?side2 ?side3 ?side4 A84.out).mono ?_); (case side1 => exact cc_ ((Kd.C_below HR0.out HB.out))); (case side2 => exact HC0.out); (case side3 => exact cc_ ((Kd.C_below HR1.out HB.out))); (case side4 => exact HC1.out); rintro e w94 ⟨v520, rfl, ho0, hb⟩; refine ⟨_, rfl, ?_⟩; have HO521 := mk_ (Kd.R_lower (Kd.R_new' ho0 (Kd.R_lt (rr_ HO517))) (below_size (bs4_ HB GE481 GE482 GE489 GE493))); replace HO517 := mk_ (Kd.R_elder' (rr_ HO517) (Kd.R_base ho0) hb); replace BK481 := mk_ (blk_below (kk_ BK481) hb); replace BK482 := mk_ (blk_below (kk_ BK482) hb); replace BK489 := mk_ (blk_below (kk_ BK489) hb); replace BK493 := mk_ (blk_below (kk_ BK493) hb); replace HB := mk_ (below_step (bs4_ HB GE481 GE482 GE489 GE493) hb); (try clear hb); (try clear ho0); obtain ⟨Ao95, co95, eo95⟩ := Kd.R_slice HO517.out; subst eo95; obtain ⟨Ao96, co96, eo96⟩ := Kd.R_slice HO521.out; subst eo96) | (go_at_call 18; (with_reducible refine (cohousingref05_Same.calls kj67 _ _ t514 _ _ t518 true _ ?side1 ?side2 ?side3 ?side4 A86.out).mono ?_); (case side1 => exact cc_ ((Kd.R_reads' HO517.out).2.2)); (case side2 => exact (Kd.R_reads' HO517.out).2.1); (case side3 => exact cc_ ((Kd.R_reads' HO521.out).2.2)); (case side4 => exact (Kd.R_reads' HO521.out).2.1); rintro e w' ⟨rfl, ⟨nd, rfl⟩⟩; have hnb97 := NB482_481.out; have hnc97 := NB481_482.out; have hnb98 := NB482_489.out; have hnc98 := NB489_482.out; have hnb99 := NB482_493.out; have hnc99 := NB493_482.out; have hcz100_0 := bc0_ BK482.out; have hcz100_1 := bc1_ BK482.out; have hfz100_0 := blk_frozen BK482.out 0; have hfz100_1 := blk_frozen BK482.out 1) | ((with_reducible refine gate_callee (f := 23) rfl ?_); refine gl_ (some 139) Try.func23 #[.slice A0 l0.length c0, .slice A1 l1.length c1, .agg #[.int .i64 a4_0, .int .i64 a4_1]] ?_; (with_reducible refine (piecewise_Below.calls _ _ l0 _ _ l1 a4_0 a4_1 t523 t524 t525 _ ?side1 ?side2 ?side3 ?side4 A88.out).mono ?_); (case side1 => repeat (first | exact (Kd.C_below HR0.out (bs4_ HB GE481 GE482 GE489 GE493)) | (with_reducible refine Kd.C_alloc ?_ _) | (with_reducible refine Kd.C_drewN ?_ _) | (with_reducible refine Kd.C_drew ?_))); (case side2 => exact HC0.out); (case side3 => repeat (first | exact (Kd.C_below HR1.out (bs4_ HB GE481 GE482 GE489 GE493)) | (with_reducible refine Kd.C_alloc ?_ _) | (with_reducible refine Kd.C_drewN ?_ _) | (with_reducible refine Kd.C_drew ?_))); (case side4 => exact HC1.out); rintro e w101 ⟨rfl, hb⟩; refine ⟨_, rfl, ?_⟩; replace HO517 := mk_ (Kd.R_below (rr_ HO517) hb); replace HO521 := mk_ (Kd.R_below (rr_ HO521) hb); replace BK481 := mk_ (blk_below (kk_ BK481) hb); replace BK482 := mk_ (blk_below (kk_ BK482) hb); replace BK489 := mk_ (blk_below (kk_ BK489) hb); replace BK493 := mk_ (blk_below (kk_ BK493) hb); replace HB := mk_ (below_step (bs4_ HB GE481 GE482 GE489 GE493) hb); (try clear hb); have hcz102_0 := bc0_ BK482.out; have hcz102_1 := bc1_ BK482.out; have hfz102_0 := blk_frozen BK482.out 0; have hfz102_1 := blk_frozen BK482.out 1) | ((with_reducible refine gate_callee (f := 24) rfl ?_); refine gl_ (some 147) Try.func24 #[.slice A0 l0.length c0, .slice A1 l1.length c1, .agg #[.int .i64 a4_0, .int .i64 a4_1]] ?_; (with_reducible refine (cohousingref05_Below.calls kj67 _ _ l0 _ _ l1 a4_0 a4_1 t526 t527 t528 _ ?side1 ?side2 ?side3 ?side4 A89.out).mono ?_); (case side1 => exact cc_ ((Kd.C_below HR0.out HB.out))); (case side2 => exact HC0.out); (case side3 => exact cc_ ((Kd.C_below HR1.out HB.out))); (case side4 => exact HC1.out); rintro e w103 ⟨rfl, hb⟩; refine ⟨_, rfl, ?_⟩; replace HO517 := mk_ (Kd.R_below (rr_ HO517) hb); replace HO521 := mk_ (Kd.R_below (rr_ HO521) hb); replace BK481 := mk_ (blk_below (kk_ BK481) hb); replace BK482 := mk_ (blk_below (kk_ BK482) hb); replace BK489 := mk_ (blk_below (kk_ BK489) hb); replace BK493 := mk_ (blk_below (kk_ BK493) hb); replace HB := mk_ (below_step (bs4_ HB GE481 GE482 GE489 GE493) hb); (try clear hb)))
         go_ret
         exact ⟨ew_, bs4_ HB GE481 GE482 GE489 GE493⟩
end
end Go.Proofs.Ytmhimmodigeeiaa.P
end
section
namespace Go.Proofs.Ytmhimmodigeeiaa.P
open Go.RowKit Go.Proofs.YtmhimmodigeeiaaW.PrintWords Go.Proofs.YtmhimmodigeeiaaW.PrintLast Go.Proofs.YtmhimmodigeeiaaW.PrintMore
set_option linter.unusedVariables false
set_option linter.unusedSimpArgs false
open Classical
theorem same_l0 (l : List PC) (hl : l.length ≤ 1000) : ∀ (d i : Nat), i + d = l.length → Ev (fun k => cohousingref05_Same.l0 k l l (i : Int)) true := by
 intro d
 induction d with
 | zero =>
  intro i hi
  have h1 : ¬ (i : Int) < (l.length : Int) := by omega
  refine Ev.step ?_
  simp only [cohousingref05_Same.l0, h1, if_false]
  exact Ev.pure _
 | succ d ih =>
  intro i hi
  have h1 : (i : Int) < (l.length : Int) := by omega
  have h2 : 0 ≤ (i : Int) := by omega
  have ew : wrap64 ((i : Int) + 1) = ((i + 1 : Nat) : Int) := by unfold wrap64; omega
  refine Ev.step ?_
  simp only [cohousingref05_Same.l0, h1, h2, if_true, ew, beq_self_eq_true, Bool.not_true, Bool.or_self, Bool.false_eq_true, if_false]
  exact ih (i + 1) (by omega)
theorem same_ev (l : List PC) (hl : l.length ≤ 1000) : Ev (fun k => cohousingref05_Same.f k l l) true := by
 unfold cohousingref05_Same.f
 simp only [if_true]
 exact same_l0 l hl l.length 0 (by omega)
theorem resS_len (out : List PC) : (resS out).1.length ≤ 64 := by
 unfold resS
 split
 ·simp
 ·split
  ·simp
  ·dsimp only
   omega
theorem both_add (f g : List PC) (hIf : ∀ p ∈ f, IBP p) (hIg : ∀ p ∈ g, IBP p) : ∃ r, piecewise_Add.f f g = some r ∧ Ev (fun k => cohousingref05_Add.f k f g) r ∧ r.1.length ≤ 64 := by
 by_cases h : FOk f ∧ FOk g
 ·obtain ⟨M, hM, hS, hM1, hM0⟩ := stM_ex h.1 h.2
  exact ⟨_, add_eq h.1 h.2 hM, radd_ev h.1 h.2 hIf hIg hS hM1 hM0, resS_len _⟩
 ·exact ⟨_, add_bad h, radd_bad h hIf hIg, by simp⟩
theorem both_least (f g : List PC) (hIf : ∀ p ∈ f, IBP p) (hIg : ∀ p ∈ g, IBP p) : ∃ r, piecewise_Least.f f g = some r ∧ Ev (fun k => cohousingref05_Least.f k f g) r ∧ r.1.length ≤ 64 := by
 by_cases h : FOk f ∧ FOk g
 ·obtain ⟨M, hM, hS, hM1, hM0⟩ := stM_ex h.1 h.2
  exact ⟨_, least_eq h.1 h.2 hM, rleast_ev h.1 h.2 hIf hIg hS hM1 hM0, resS_len _⟩
 ·exact ⟨_, least_bad_eq h, rleast_bad h hIf hIg, by simp⟩
theorem both_below (f g : List PC) (lo hi : Int) (hIf : ∀ p ∈ f, IBP p) (hIg : ∀ p ∈ g, IBP p) : ∃ r, piecewise_Below.f f g lo hi = some r ∧ Ev (fun k => cohousingref05_Below.f k f g lo hi) r := by
 by_cases h : (FOk f ∧ FOk g) ∧ 0 ≤ lo ∧ lo ≤ hi ∧ hi ≤ 100000
 ·obtain ⟨r, h1, h2⟩ := below_eq h.1.1 h.1.2 h.2.1 h.2.2.1 h.2.2.2
  exact ⟨r, h1, rbelow_ev h.1.1 h.1.2 hIf hIg h.2.1 h.2.2.1 h.2.2.2 r h2⟩
 ·exact ⟨_, below_bad_eq h, rbelow_bad h hIf hIg⟩
theorem both_at (f : List PC) (x : Int) (hIf : ∀ p ∈ f, IBP p) : ∃ r, Ev (fun k => piecewise_At.f k f x) r ∧ Ev (fun k => cohousingref05_At.f k f x) r := by
 by_cases h : FOk f ∧ 0 ≤ x ∧ x ≤ 100000
 ·obtain ⟨i, hi⟩ := ex_at h.1 h.2.1
  exact ⟨_, at_ev h.1 hi h.2.1 h.2.2, rat_ev h.1 hIf hi h.2.1 h.2.2⟩
 ·exact ⟨_, at_bad h, rat_bad hIf h⟩
theorem scR_len {a b : Int} {f : List PC} (hf : FOk f) : (scR [] (outM none (scEs a b f))).1.length ≤ 64 := by
 have h1 := outM_len (scEs a b f) none
 have h2 : (scEs a b f).length = f.length := by unfold scEs; rw [List.length_map]
 have h3 := hf.few
 unfold scR
 split
 ·simp
 ·simp only [List.nil_append]
  omega
theorem both_scale (f : List PC) (a b : Int) (ha : IB a) (hb : IB b) (hIf : ∀ p ∈ f, IBP p) : ∃ r, Ev (fun k => piecewise_Scale.f k f a b) r ∧ Ev (fun k => cohousingref05_Scale.f k f a b) r ∧ r.1.length ≤ 64 := by
 by_cases h : FOk f ∧ RV a b
 ·exact ⟨_, scale_ev h.2 h.1, rscale_ev ha hb h.2 h.1 hIf, scR_len h.1⟩
 ·exact ⟨_, scale_bad h, rscale_bad ha hb hIf h, by simp⟩
theorem matches_ (f g : List PC) (hIf : ∀ p ∈ f, IBP p) (hIg : ∀ p ∈ g, IBP p) (a b : Int) (ha : IB a) (hb : IB b) (x : Int) (lo hi : Int) : Ev (fun k => cohousinglaw05_PiecewiseMatchesReference.f k f g a b x lo hi) true := by
 have skip : Ev (fun k => cohousinglaw05_PiecewiseMatchesReference.j0 k f g x true true a b lo hi) true := by
  refine Ev.step ?_
  simp only [cohousinglaw05_PiecewiseMatchesReference.j0, if_true]
  exact Ev.pure _
 unfold cohousinglaw05_PiecewiseMatchesReference.f
 refine Ev.bnd head_ev ?_
 simp only [cohousinglaw05_few.f, Option.bind_some]
 by_cases c1 : (f.length : Int) ≤ 70
 case neg =>
  simp only [c1, decide_false, Bool.false_eq_true, if_false]
  exact skip
 by_cases c2 : (g.length : Int) ≤ 70
 case neg =>
  simp only [c1, c2, decide_true, decide_false, if_true, Bool.not_false]
  exact skip
 simp only [c1, c2, decide_true, if_true, Bool.not_true]
 obtain ⟨r1, a1, a2⟩ := both_at f x hIf
 obtain ⟨r2, b1, b2, b3⟩ := both_add f g hIf hIg
 obtain ⟨r3, d1, d2, d3⟩ := both_scale f a b ha hb hIf
 obtain ⟨r4, e1, e2, e3⟩ := both_least f g hIf hIg
 obtain ⟨r5, f1, f2⟩ := both_below f g lo hi hIf hIg
 refine Ev.step ?_
 simp only [cohousinglaw05_PiecewiseMatchesReference.j0, Bool.false_eq_true, if_false]
 refine Ev.bnd a1 (Ev.bnd a2 ?_)
 simp only [if_true]
 refine Ev.bnd (b := decide (FOk f)) ⟨100, fun k hk => valid_eq f hk⟩ (Ev.bnd (rvalid_ev f hIf) ?_)
 simp only [beq_self_eq_true, Bool.and_self, if_true]
 refine Ev.step ?_
 simp only [cohousinglaw05_PiecewiseMatchesReference.j1, b1, Option.bind_some]
 refine Ev.bnd b2 ?_
 simp only [if_true]
 refine Ev.bnd (same_ev r2.1 (by omega)) ?_
 simp only [beq_self_eq_true, if_true]
 refine Ev.step ?_
 simp only [cohousinglaw05_PiecewiseMatchesReference.j2]
 refine Ev.bnd d1 (Ev.bnd d2 ?_)
 simp only [if_true]
 refine Ev.bnd (same_ev r3.1 (by omega)) ?_
 simp only [beq_self_eq_true, if_true]
 refine Ev.step ?_
 simp only [cohousinglaw05_PiecewiseMatchesReference.j3, e1, Option.bind_some]
 refine Ev.bnd e2 ?_
 simp only [if_true]
 refine Ev.bnd (same_ev r4.1 (by omega)) ?_
 simp only [if_true, f1, Option.bind_some]
 refine Ev.bnd f2 ?_
 simp only [beq_self_eq_true, if_true]
 exact Ev.pure _
end Go.Proofs.Ytmhimmodigeeiaa.P
end
