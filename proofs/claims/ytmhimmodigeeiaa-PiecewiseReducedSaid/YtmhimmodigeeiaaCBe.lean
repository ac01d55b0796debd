/- Part 5 of the base that the seat's proofs share: words, walks and plain laws. -/
import Derived.Test.YtmhimmodigeeiaaCBd
set_option linter.unusedVariables false
set_option linter.unusedSimpArgs false
section
namespace Go.Proofs.Ytmhimmodigeeiaa.P
open Go.RowKit Go.Proofs.YtmhimmodigeeiaaW.PrintWords Go.Proofs.YtmhimmodigeeiaaW.PrintLast Go.Proofs.YtmhimmodigeeiaaW.PrintMore
attribute [local go_sem] max2_int min2_int max_two min_two max_three min_three max_four min_four
set_option linter.unusedVariables false
set_option linter.unusedSimpArgs false
set_option maxHeartbeats 8000000
set_option maxRecDepth 100000
section
attribute [local go_sem high] eqA51
mutual
def piecewise_Scale.j0 : Nat → List (S51) → Bool → Int → Int → Option ((List (S51)) × Int)
 | 0, _, _, _, _ => none
 | k + 1, x0, x17, x141000, x141001 => if x17 = true then (some (([] : List (S51)), 1)) else (piecewise_Scale.l0 k x0 ([] : List (S51)) x0 (x0.length : Int) 0 x141000 x141001)
def piecewise_Scale.l0 : Nat → List (S51) → List (S51) → List (S51) → Int → Int → Int → Int → Option ((List (S51)) × Int)
 | 0, _, _, _, _, _, _, _ => none
 | k + 1, x0, x6, x18, x19, x20, x141000, x141001 => if x20 < x19 then (if 0 ≤ x20 then (if x20 < (x18.length : Int) then (if x20 > 0 then (if x141000 = 0 then (piecewise_Scale.j2 k x0 x6 x18 x19 x20 true x141000 x141001 ((rd_T51 x18 x20).f0) ((rd_T51 x18 x20).f1.f0) ((rd_T51 x18 x20).f1.f1) ((rd_T51 x18 x20).f2.f0) ((rd_T51 x18 x20).f2.f1)) else (if 0 ≤ (wrap64 (x20 - 1)) then (if (wrap64 (x20 - 1)) < (x0.length : Int) then ((piecewise_lineOf.f ((rd_T51 x0 (wrap64 (x20 - 1))).f0) ((rd_T51 x0 (wrap64 (x20 - 1))).f1.f0) ((rd_T51 x0 (wrap64 (x20 - 1))).f1.f1) ((rd_T51 x0 (wrap64 (x20 - 1))).f2.f0) ((rd_T51 x0 (wrap64 (x20 - 1))).f2.f1)).bind fun bt146 => ((piecewise_line_piece.f k bt146.1 bt146.2.1 bt146.2.2.1 bt146.2.2.2 ((rd_T51 x18 x20).f0)).bind fun bt150 => (piecewise_Scale.j2 k x0 x6 x18 x19 x20 (((rd_T51 x18 x20).f0) == bt150.1 && ((((rd_T51 x18 x20).f1.f0) == bt150.2.1 && (((rd_T51 x18 x20).f1.f1) == bt150.2.2.1)) && ((((rd_T51 x18 x20).f2.f0) == bt150.2.2.2.1 && (((rd_T51 x18 x20).f2.f1) == bt150.2.2.2.2))))) x141000 x141001 ((rd_T51 x18 x20).f0) ((rd_T51 x18 x20).f1.f0) ((rd_T51 x18 x20).f1.f1) ((rd_T51 x18 x20).f2.f0) ((rd_T51 x18 x20).f2.f1)))) else (none)) else (none))) else (piecewise_Scale.j2 k x0 x6 x18 x19 x20 false x141000 x141001 ((rd_T51 x18 x20).f0) ((rd_T51 x18 x20).f1.f0) ((rd_T51 x18 x20).f1.f1) ((rd_T51 x18 x20).f2.f0) ((rd_T51 x18 x20).f2.f1))) else (none)) else (none)) else (some (x6, 0))
def piecewise_Scale.j2 : Nat → List (S51) → List (S51) → List (S51) → Int → Int → Bool → Int → Int → Int → Int → Int → Int → Int → Option ((List (S51)) × Int)
 | 0, _, _, _, _, _, _, _, _, _, _, _, _, _ => none
 | k + 1, x0, x6, x18, x19, x20, x44, x141000, x141001, x145000, x145001, x145002, x145003, x145004 => if x44 = true then (piecewise_Scale.l0 k x0 x6 x18 x19 (wrap64 (x20 + 1)) x141000 x141001) else ((piecewise_lowest.f k (wrap64 (x145001 * x141000)) (wrap64 (x145002 * x141001))).bind fun bt155 => ((piecewise_lowest.f k (wrap64 (x145003 * x141000)) (wrap64 (x145004 * x141001))).bind fun bt157 => ((piecewise_numbers.f x145000 bt155.1 bt155.2 bt157.1 bt157.2).bind fun t160 => (if t160 = true then (if x6.length < 3518437208883 then (piecewise_Scale.l0 k x0 (x6 ++ [(⟨x145000, (⟨bt155.1, bt155.2⟩ : S24), (⟨bt157.1, bt157.2⟩ : S24)⟩ : S51)]) x18 x19 (wrap64 (x20 + 1)) x141000 x141001) else (none)) else (some (([] : List (S51)), 3))))))
end
def piecewise_Scale.f (k : Nat) (l0 : List (S51)) (a1_0 : Int) (a1_1 : Int) : Option ((List (S51)) × Int) := (piecewise_Valid.f k l0).bind fun t141 => (if t141 = true then ((rational_Valid.f a1_0 a1_1).bind fun t142 => (piecewise_Scale.j0 k l0 (!t142) a1_0 a1_1)) else (piecewise_Scale.j0 k l0 true a1_0 a1_1))
theorem piecewise_Scale.mono_l : ∀ k, (∀ y0 y1 y2 y3, LeO (piecewise_Scale.j0 k y0 y1 y2 y3) (piecewise_Scale.j0 (k + 1) y0 y1 y2 y3)) ∧ (∀ y0 y1 y2 y3 y4 y5 y6, LeO (piecewise_Scale.l0 k y0 y1 y2 y3 y4 y5 y6) (piecewise_Scale.l0 (k + 1) y0 y1 y2 y3 y4 y5 y6)) ∧ (∀ y0 y1 y2 y3 y4 y5 y6 y7 y8 y9 y10 y11 y12, LeO (piecewise_Scale.j2 k y0 y1 y2 y3 y4 y5 y6 y7 y8 y9 y10 y11 y12) (piecewise_Scale.j2 (k + 1) y0 y1 y2 y3 y4 y5 y6 y7 y8 y9 y10 y11 y12))
 | 0 => ⟨fun _ _ _ _ r h => by simp [piecewise_Scale.j0] at h, fun _ _ _ _ _ _ _ r h => by simp [piecewise_Scale.l0] at h, fun _ _ _ _ _ _ _ _ _ _ _ _ _ r h => by simp [piecewise_Scale.j2] at h⟩
 | k + 1 => by
  obtain ⟨ih0, ih1, ih2⟩ := piecewise_Scale.mono_l k
  refine ⟨?_, ?_, ?_⟩
  ·intro y0 y1 y2 y3
   unfold piecewise_Scale.j0
   repeat' first
   | (with_reducible exact ih0 _ _ _ _)
   | (with_reducible exact ih1 _ _ _ _ _ _ _)
   | (with_reducible exact ih2 _ _ _ _ _ _ _ _ _ _ _ _ _)
   | (with_reducible exact piecewise_Valid.mono _ _)
   | (with_reducible exact piecewise_line_piece.mono _ _ _ _ _ _)
   | (with_reducible exact piecewise_lowest.mono _ _ _)
   | (with_reducible exact LeO.refl _)
   | (with_reducible exact LeO.none _)
   | (with_reducible refine LeO.ite ?_ ?_)
   | (with_reducible refine LeO.bind ?_ (fun _ => ?_))
   | exact ih0 _ _ _ _
   | exact ih1 _ _ _ _ _ _ _
   | exact ih2 _ _ _ _ _ _ _ _ _ _ _ _ _
   | exact piecewise_Valid.mono _ _
   | exact piecewise_line_piece.mono _ _ _ _ _ _
   | exact piecewise_lowest.mono _ _ _
   | exact LeO.none _
   | refine LeO.ite ?_ ?_
   | refine LeO.bind ?_ (fun _ => ?_)
  ·intro y0 y1 y2 y3 y4 y5 y6
   unfold piecewise_Scale.l0
   repeat' first
   | (with_reducible exact ih0 _ _ _ _)
   | (with_reducible exact ih1 _ _ _ _ _ _ _)
   | (with_reducible exact ih2 _ _ _ _ _ _ _ _ _ _ _ _ _)
   | (with_reducible exact piecewise_Valid.mono _ _)
   | (with_reducible exact piecewise_line_piece.mono _ _ _ _ _ _)
   | (with_reducible exact piecewise_lowest.mono _ _ _)
   | (with_reducible exact LeO.refl _)
   | (with_reducible exact LeO.none _)
   | (with_reducible refine LeO.ite ?_ ?_)
   | (with_reducible refine LeO.bind ?_ (fun _ => ?_))
   | exact ih0 _ _ _ _
   | exact ih1 _ _ _ _ _ _ _
   | exact ih2 _ _ _ _ _ _ _ _ _ _ _ _ _
   | exact piecewise_Valid.mono _ _
   | exact piecewise_line_piece.mono _ _ _ _ _ _
   | exact piecewise_lowest.mono _ _ _
   | exact LeO.none _
   | refine LeO.ite ?_ ?_
   | refine LeO.bind ?_ (fun _ => ?_)
  ·intro y0 y1 y2 y3 y4 y5 y6 y7 y8 y9 y10 y11 y12
   unfold piecewise_Scale.j2
   repeat' first
   | (with_reducible exact ih0 _ _ _ _)
   | (with_reducible exact ih1 _ _ _ _ _ _ _)
   | (with_reducible exact ih2 _ _ _ _ _ _ _ _ _ _ _ _ _)
   | (with_reducible exact piecewise_Valid.mono _ _)
   | (with_reducible exact piecewise_line_piece.mono _ _ _ _ _ _)
   | (with_reducible exact piecewise_lowest.mono _ _ _)
   | (with_reducible exact LeO.refl _)
   | (with_reducible exact LeO.none _)
   | (with_reducible refine LeO.ite ?_ ?_)
   | (with_reducible refine LeO.bind ?_ (fun _ => ?_))
   | exact ih0 _ _ _ _
   | exact ih1 _ _ _ _ _ _ _
   | exact ih2 _ _ _ _ _ _ _ _ _ _ _ _ _
   | exact piecewise_Valid.mono _ _
   | exact piecewise_line_piece.mono _ _ _ _ _ _
   | exact piecewise_lowest.mono _ _ _
   | exact LeO.none _
   | refine LeO.ite ?_ ?_
   | refine LeO.bind ?_ (fun _ => ?_)
theorem piecewise_Scale.mono : ∀ a0 a1 a2 k, LeO (piecewise_Scale.f k a0 a1 a2) (piecewise_Scale.f (k + 1) a0 a1 a2) := by
 intro a0 a1 a2 k
 obtain ⟨ih0, ih1, ih2⟩ := piecewise_Scale.mono_l k
 unfold piecewise_Scale.f
 repeat' first
   | (with_reducible exact ih0 _ _ _ _)
   | (with_reducible exact ih1 _ _ _ _ _ _ _)
   | (with_reducible exact ih2 _ _ _ _ _ _ _ _ _ _ _ _ _)
   | (with_reducible exact piecewise_Valid.mono _ _)
   | (with_reducible exact piecewise_line_piece.mono _ _ _ _ _ _)
   | (with_reducible exact piecewise_lowest.mono _ _ _)
   | (with_reducible exact LeO.refl _)
   | (with_reducible exact LeO.none _)
   | (with_reducible refine LeO.ite ?_ ?_)
   | (with_reducible refine LeO.bind ?_ (fun _ => ?_))
   | exact ih0 _ _ _ _
   | exact ih1 _ _ _ _ _ _ _
   | exact ih2 _ _ _ _ _ _ _ _ _ _ _ _ _
   | exact piecewise_Valid.mono _ _
   | exact piecewise_line_piece.mono _ _ _ _ _ _
   | exact piecewise_lowest.mono _ _ _
   | exact LeO.none _
   | refine LeO.ite ?_ ?_
   | refine LeO.bind ?_ (fun _ => ?_)
def piecewise_Scale.T7 : Bool × List (List Nat × List Nat) := (true, [([], []), ([0], [0]), ([1], [1]), ([2], [2]), ([3, 2], [2, 3]), ([4, 2], [2, 4]), ([5, 2, 2], [2, 5]), ([6], [6]), ([6], [6]), ([6], [6]), ([9, 6], [6, 9]), ([8, 10, 6], [6, 8, 10]), ([11, 6], [6, 11]), ([12, 6, 6], [6, 12]), ([6], [6]), ([14, 6], [6, 14]), ([13, 15, 13, 6], [6, 13, 15]), ([7, 16, 6], [6, 7, 16]), ([6, 17, 2], [2, 6, 17]), ([2, 18], [2, 18])])
def piecewise_Scale.B7 : List Nat := [0, 1, 3, 7, 15, 31, 63, 127, 127, 127, 639, 1919, 3967, 8063, 127, 16511, 65407, 131071, 262143, 524287]
theorem piecewise_Scale.tab7 : rtab .any (opsOf Try.f19 7) = piecewise_Scale.T7 := by kernel_rfl
theorem piecewise_Scale.bits7 : waitsOk piecewise_Scale.T7.2 piecewise_Scale.B7 = true := by kernel_rfl
def piecewise_Scale.T8 : Bool × List (List Nat × List Nat) := (true, [([], []), ([0], [0]), ([], []), ([2], [2]), ([3], [3]), ([], []), ([5], [5]), ([4, 6], [4, 6]), ([], []), ([8], [8]), ([9], [9]), ([], []), ([11], [11]), ([10, 12], [10, 12]), ([7, 13], [7, 13]), ([], []), ([15], [15]), ([16], [16]), ([], []), ([18], [18]), ([17, 19], [17, 19]), ([], []), ([21], [21]), ([22], [22]), ([], []), ([24], [24]), ([23, 25], [23, 25]), ([20, 26, 14], [20, 26]), ([1, 14, 27], [1, 14, 27]), ([], []), ([29, 28, 27, 0, 1, 2, 3, 4, 5, 6, 7, 8, 9, 10, 11, 12, 13, 14, 15, 16, 17, 18, 19, 20, 21, 22, 23, 24, 25, 26, 27, 28, 29], [28, 29])])
def piecewise_Scale.B8 : List Nat := [0, 1, 0, 4, 12, 0, 32, 124, 0, 256, 768, 0, 2048, 7936, 16380, 0, 32768, 98304, 0, 262144, 1015808, 0, 2097152, 6291456, 0, 16777216, 65011712, 134217724, 268435455, 0, 1073741823]
theorem piecewise_Scale.tab8 : rtab .any (opsOf Try.f19 8) = piecewise_Scale.T8 := by kernel_rfl
theorem piecewise_Scale.bits8 : waitsOk piecewise_Scale.T8.2 piecewise_Scale.B8 = true := by kernel_rfl
theorem piecewise_Scale.calls (k : Nat) (A0 : Option Addr) (c0 : Nat) (l0 : List (S51)) (a1_0 : Int) (a1_1 : Int) (r1 : List (S51)) (r2 : Int) (w : World) (hr0 : Kd.C k51 w A0 l0.length l0) (hc0 : l0.length ≤ c0) (h : piecewise_Scale.f k l0 a1_0 a1_1 = some (r1, r2)) :
  Calls Try.prog 19 #[.slice A0 l0.length c0, .agg #[.int .i64 a1_0, .int .i64 a1_1]] w fun e w' => ∃ v0_ : Value, e = .returned (.tuple #[v0_, .int .i64 r2]) ∧ Kd.R k51 51 w' w.heap.size (fun _ => True) v0_ r1 ∧ Below w.heap.size w w' := by
 have hu24 := Try.underlying24
 have hu51 := Try.underlying51
 have HR0 := mk_ hr0
 have HC0 := mk_ hc0
 clear hr0 hc0
 have HB := mk_ (Below.refl w.heap.size w)
 have H : ((piecewise_Valid.f k l0).bind fun t141 => (if t141 = true then ((rational_Valid.f a1_0 a1_1).bind fun t142 => (piecewise_Scale.j0 k l0 (!t142) a1_0 a1_1)) else (piecewise_Scale.j0 k l0 true a1_0 a1_1))) = some (r1, r2) := h
 clear h
 have HC3 := mk_ H
 clear H
 go_enter Try.func19, Try.ntmps19
 go_upto_region 1 with (first | ((with_reducible refine gate_dst (N := 3) rfl ?_); refine box_event ?hg (N := 3) ?hd (cs := #[.int .i64 a1_0, .int .i64 a1_1]) (t := 24) ?hr ?_; (case hd => rfl); (case hg => rfl); (case hr => first | (go_simp; done) | (go_simp; rfl)); intro gb140 hg w4 hbox hb; have n0_ := mk_ (below_step (bb_ HB) hb); have n1_ := mk_ (hbox); have n2_ := mk_ (bz_ hg (bb_ HB)); have n3_ := mk_ (bz_ hg (bb_ HB)); clear HB; revert n0_ n1_ n2_ n3_; intro HB BK140 GW140 GE140; clear hb hbox hg))
 (try simp only [Act.put, sI_, s0_, sS_])
 go_cut [17] (fun v17 wc => ∃ (kq : Nat) (x17_2 : Bool), v17 = .bool x17_2 ∧ Aside0 (piecewise_Scale.j0 kq l0 x17_2 a1_0 a1_1 = some (r1, r2)) ∧ Aside0 (kq ≤ k) ∧ Aside0 (wc.heap[gb140]? = some (.cells #[.int .i64 a1_0, .int .i64 a1_1] 24 (0, 0))) ∧ Aside0 (Below w.heap.size w wc))
 case first =>
  have H := HC3.out
  clear HC3
  replace H := Option.bind_eq_some_iff.mp H
  obtain ⟨t141, A50, H⟩ := H
  replace H : (if t141 = true then ((rational_Valid.f a1_0 a1_1).bind fun t142 => (piecewise_Scale.j0 k l0 (!t142) a1_0 a1_1)) else (piecewise_Scale.j0 k l0 true a1_0 a1_1)) = some (r1, r2) := H
  have A5 := mk_ A50
  clear A50
  by_cases c6 : t141 = true
  rotate_left
  ·replace c6 := Bool.eq_false_iff.mpr c6
   subst c6
   have H1 : (piecewise_Scale.j0 k l0 true a1_0 a1_1) = some (r1, r2) := by rw [if_neg (show ¬ (false = true) by decide)] at H; exact H
   clear H
   have H := H1
   clear H1
   have H' := mk_ H
   clear H
   go_wp2_with (first | ((with_reducible refine gate_callee (f := 14) rfl ?_); refine gl_ (some 11) Try.func14 #[.slice A0 l0.length c0] ?_; (with_reducible refine (piecewise_Valid.calls k _ _ l0 false _ ?side1 ?side2 A5.out).mono ?_); (case side1 => exact cc_ ((Kd.C_below HR0.out HB.out))); (case side2 => exact HC0.out); rintro e w11 ⟨rfl, hb⟩; refine ⟨_, rfl, ?_⟩; have n0_ := mk_ (blk_below (kk_ BK140) hb); have n1_ := mk_ (below_step (bs_ HB GE140.out) hb); clear BK140 HB; revert n0_ n1_; intro BK140 HB; (try clear hb); (try clear hb2); (try clear hk); (try clear hi)))
   go_meet
   case rel => exact ⟨_, (true), sd_, H', ⟨by first | omega | exact Nat.le_refl _⟩, ⟨kk_ BK140⟩, ⟨bs1_ HB GE140⟩⟩
  subst c6
  have H1 : ((rational_Valid.f a1_0 a1_1).bind fun t142 => (piecewise_Scale.j0 k l0 (!t142) a1_0 a1_1)) = some (r1, r2) := by rw [if_pos rfl] at H; exact H
  clear H
  have H := H1
  clear H1
  replace H := Option.bind_eq_some_iff.mp H
  obtain ⟨t142, A70, H⟩ := H
  replace H : (piecewise_Scale.j0 k l0 (!t142) a1_0 a1_1) = some (r1, r2) := H
  have A7 := mk_ A70
  clear A70
  have H' := mk_ H
  clear H
  go_wp2_with (first | ((with_reducible refine gate_callee (f := 14) rfl ?_); refine gl_ (some 11) Try.func14 #[.slice A0 l0.length c0] ?_; (with_reducible refine (piecewise_Valid.calls k _ _ l0 true _ ?side1 ?side2 A5.out).mono ?_); (case side1 => exact cc_ ((Kd.C_below HR0.out HB.out))); (case side2 => exact HC0.out); rintro e w8 ⟨rfl, hb⟩; refine ⟨_, rfl, ?_⟩; have n0_ := mk_ (blk_below (kk_ BK140) hb); have n1_ := mk_ (below_step (bs_ HB GE140.out) hb); clear BK140 HB; revert n0_ n1_; intro BK140 HB; (try clear hb); (try clear hb2); (try clear hk); (try clear hi); have hcz9_0 := bc0_ BK140.out; have hcz9_1 := bc1_ BK140.out; have hfz9_0 := blk_frozen BK140.out 0; have hfz9_1 := blk_frozen BK140.out 1) | (go_at_call 37; (with_reducible refine (rational_Valid.calls a1_0 a1_1 t142 _ A7.out).mono ?_); rintro e w10 ⟨rfl, hb⟩; have n0_ := mk_ (blk_below (kk_ BK140) hb); have n1_ := mk_ (below_step (bs_ HB GE140.out) hb); clear BK140 HB; revert n0_ n1_; intro BK140 HB; (try clear hb); (try clear hb2); (try clear hk); (try clear hi)))
  go_meet
  case rel => exact ⟨_, (!t142), sd_, H', ⟨by first | omega | exact Nat.le_refl _⟩, ⟨kk_ BK140⟩, ⟨bs1_ HB GE140⟩⟩
 case rest =>
  clear HC3
  try clear c1; try clear p2; try clear c6; try clear hcz9_0; try clear hcz9_1; try clear hfz9_0; try clear hfz9_1
  obtain ⟨kq, x17_2, rfl, HA, HJ2, BK140, HB⟩ := hcut
  cases kq with
  | zero => exact absurd HA.out (by simp [piecewise_Scale.j0])
  | succ kj2 =>
   have H := HA.out
   clear HA
   simp only [piecewise_Scale.j0] at H
   by_cases c12 : x17_2 = true
   ·subst c12
    have H1 : (some (([] : List (S51)), 1)) = some (r1, r2) := by rw [if_pos rfl] at H; exact H
    clear H
    have H := H1
    clear H1
    simp only [Option.some.injEq, Prod.mk.injEq] at H
    obtain ⟨rfl, rfl⟩ := H
    go_wp2
    go_ret2
    exact ⟨_, ew_, by first | exact Kd.R_nil _ _ _ _ _ | exact Kd.N_nil _ _ _ _ _ | exact Kd.V_nil _ _ _ _ _ | exact Kd.Q_nil _ _ _ _ _ | exact Kd.S_nil _ _ _ _ _, bs1_ HB GE140⟩
   replace c12 := Bool.eq_false_iff.mpr c12
   subst c12
   have H1 : (piecewise_Scale.l0 kj2 l0 ([] : List (S51)) l0 (l0.length : Int) 0 a1_0 a1_1) = some (r1, r2) := by rw [if_neg (show ¬ (false = true) by decide)] at H; exact H
   clear H
   have H := H1
   clear H1
   have H' := mk_ H
   clear H
   go_wp2
   go_loopg [6, 20] kj2 (fun kq v6 v20 w' => ∃ (x6_2 : List (S51)) (x20_2 : Int), v20 = .int .i64 x20_2 ∧ Aside0 (piecewise_Scale.l0 kq l0 x6_2 l0 (l0.length : Int) x20_2 a1_0 a1_1 = some (r1, r2)) ∧ Aside0 (kq ≤ kj2) ∧ Aside0 (Kd.R k51 51 w' w.heap.size (fun _ => True) v6 x6_2) ∧ Aside0 (w'.heap[gb140]? = some (.cells #[.int .i64 a1_0, .int .i64 a1_1] 24 (0, 0))) ∧ Aside0 (Below w.heap.size w w'))
   case atStart => exact ⟨(([] : List (S51))), (0), sd_, H', ⟨Nat.le_refl _⟩, ⟨by first | exact Kd.R_nil _ _ _ _ _ | exact Kd.N_nil _ _ _ _ _ | exact Kd.V_nil _ _ _ _ _ | exact Kd.Q_nil _ _ _ _ _ | exact Kd.S_nil _ _ _ _ _⟩, ⟨kk_ BK140⟩, ⟨bs1_ HB GE140⟩⟩
   case round =>
    clear H'
    try clear c1; try clear p2; try clear c6; try clear c12; try clear hcz9_0; try clear hcz9_1; try clear hfz9_0; try clear hfz9_1; try clear p2
    obtain ⟨x6_2, x20_2, rfl, HA, HK2, HO_6, BK140, HB⟩ := hrel
    cases gk with
    | zero => exact absurd HA.out (by simp [piecewise_Scale.l0])
    | succ k2 =>
     have H := HA.out
     clear HA
     simp only [piecewise_Scale.l0] at H
     by_cases c13 : x20_2 < (l0.length : Int)
     rotate_left
     ·rw [if_neg c13] at H
      have c13b0 : decide (x20_2 < (l0.length : Int)) = false := decide_eq_false c13
      clear c13
      simp only [Option.some.injEq, Prod.mk.injEq] at H
      obtain ⟨rfl, rfl⟩ := H
      go_wp2
      go_ret2
      exact ⟨_, ew_, rr_ HO_6, bs1_ HB GE140⟩
     rw [if_pos c13] at H
     have c13b0 : decide (x20_2 < (l0.length : Int)) = true := decide_eq_true c13
     clear c13
     by_cases c14 : 0 ≤ x20_2
     rotate_left
     ·rw [if_neg c14] at H
      exact absurd H (by simp)
     rw [if_pos c14] at H
     have c14b0 : decide (0 ≤ x20_2) = true := decide_eq_true c14
     clear c14
     by_cases c15 : x20_2 < (l0.length : Int)
     rotate_left
     ·rw [if_neg c15] at H
      exact absurd H (by simp)
     rw [if_pos c15] at H
     have c15b0 : decide (x20_2 < (l0.length : Int)) = true := decide_eq_true c15
     clear c15
     have HC16 := mk_ H
     clear H
     have p143 : 0 ≤ (x20_2 : Int) := od_
     have q143 : x20_2 < (l0.length : Int) := od_
     obtain ⟨ad143, e143, hx143_0, hx143_1, hx143_2, hx143_3, hx143_4⟩ := at_T51 HR0.out x20_2 p143 q143
     cases e143
     replace hx143_0 := cb_ HB hx143_0
     replace hx143_1 := cb_ HB hx143_1
     replace hx143_2 := cb_ HB hx143_2
     replace hx143_3 := cb_ HB hx143_3
     replace hx143_4 := cb_ HB hx143_4
     replace p143 := eq_true p143
     replace q143 := eq_true q143
     go_upto_region 7 with (first | ((with_reducible refine gate_dst (N := 8) rfl ?_); refine box_event ?hg (N := 8) ?hd (cs := #[.int .i64 0, .int .i64 0, .int .i64 0, .int .i64 0, .int .i64 0]) (t := 51) ?hr ?_; (case hd => rfl); (case hg => rfl); (case hr => first | (go_simp; done) | (go_simp; rfl)); intro gb144 hg w17 hbox hb; have n0_ := mk_ (Kd.R_below (Kd.R_elderB (rr_ HO_6) gb144 (Nat.le_of_eq hg.symm)) hb); have n1_ := mk_ (blk_below (kk_ BK140) hb); have n2_ := mk_ (below_step (bs_ HB GE140.out) hb); have n3_ := mk_ (hbox); have n4_ := mk_ (bz_ hg (bs_ HB GE140.out)); have n5_ := mk_ (bz_ hg (bs_ HB GE140.out)); have n6_ := mk_ (bl_ hg (kk_ BK140)); have n7_ := mk_ (bg_ hg (kk_ BK140)); clear HO_6 BK140 HB; revert n0_ n1_ n2_ n3_ n4_ n5_ n6_ n7_; intro HO_6 BK140 HB BK144 GW144 GE144 NB140_144 NB144_140; clear hb hbox hg; have hnb18 := NB144_140.out; have hnc18 := NB140_144.out; have hcz19_0 := bc0_ BK144.out; have hcz19_1 := bc1_ BK144.out; have hcz19_2 := bc2_ BK144.out; have hcz19_3 : w17.cell? ⟨gb144, 3, none⟩ = some (.int .i64 0) := (blk_cell BK144.out 3).trans rfl; have hcz19_4 : w17.cell? ⟨gb144, 4, none⟩ = some (.int .i64 0) := (blk_cell BK144.out 4).trans rfl; have hfz19_0 := blk_frozen BK144.out 0; have hfz19_1 := blk_frozen BK144.out 1; have hfz19_2 := blk_frozen BK144.out 2; have hfz19_3 := blk_frozen BK144.out 3; have hfz19_4 := blk_frozen BK144.out 4))
     (try simp only [Act.put, sI_, s0_, sS_])
     go_cut [44] (fun v44 wc => ∃ (kq : Nat) (x44_15 : Bool), v44 = .bool x44_15 ∧ Aside0 (piecewise_Scale.j2 kq l0 x6_2 l0 (l0.length : Int) x20_2 x44_15 a1_0 a1_1 ((rd_T51 l0 x20_2).f0) ((rd_T51 l0 x20_2).f1.f0) ((rd_T51 l0 x20_2).f1.f1) ((rd_T51 l0 x20_2).f2.f0) ((rd_T51 l0 x20_2).f2.f1) = some (r1, r2)) ∧ Aside0 (kq ≤ k2) ∧ Aside0 (Kd.R k51 51 wc w.heap.size (fun k_ => k_ ≠ gb144) u6 x6_2) ∧ Aside0 (wc.heap[gb140]? = some (.cells #[.int .i64 a1_0, .int .i64 a1_1] 24 (0, 0))) ∧ Aside0 (wc.heap[gb144]? = some (.cells #[.int .i64 ((rd_T51 l0 x20_2).f0), .int .i64 ((rd_T51 l0 x20_2).f1.f0), .int .i64 ((rd_T51 l0 x20_2).f1.f1), .int .i64 ((rd_T51 l0 x20_2).f2.f0), .int .i64 ((rd_T51 l0 x20_2).f2.f1)] 51 (0, 0))) ∧ Aside0 (Below w.heap.size w wc))
     case first =>
      have H := HC16.out
      clear HC16
      by_cases c20 : x20_2 > 0
      rotate_left
      ·rw [if_neg c20] at H
       have c20b0 : decide (0 < x20_2) = false := decide_eq_false c20
       clear c20
       (first | rw [c20b0] | (simp only [i64_w, i32_w]; rw [c20b0]) | skip)
       have H' := mk_ H
       clear H
       try go_wp2
       have n0_ : Aside0 (Kd.R k51 51 (((((w17.setCell ⟨gb144, 0, none⟩ (.int .i64 ((rd_T51 l0 x20_2).f0))).setCell ⟨gb144, 1, none⟩ (.int .i64 ((rd_T51 l0 x20_2).f1.f0))).setCell ⟨gb144, 2, none⟩ (.int .i64 ((rd_T51 l0 x20_2).f1.f1))).setCell ⟨gb144, 3, none⟩ (.int .i64 ((rd_T51 l0 x20_2).f2.f0))).setCell ⟨gb144, 4, none⟩ (.int .i64 ((rd_T51 l0 x20_2).f2.f1))) w.heap.size (fun k_ => k_ ≠ gb144) u6 x6_2) := ⟨by (with_reducible repeat (first | apply Kd.R_alloc | apply Kd.R_drewN | apply Kd.R_drew)); exact Kd.R_mono (Kd.R_far (p := ⟨gb144, 4, none⟩) (Kd.R_far (p := ⟨gb144, 3, none⟩) (Kd.R_far (p := ⟨gb144, 2, none⟩) (Kd.R_far (p := ⟨gb144, 1, none⟩) (Kd.R_far (p := ⟨gb144, 0, none⟩) (Kd.R_mono HO_6.out (fun k_ hk => (⟨hk, hk.2⟩ : _ ∧ k_ ≠ gb144))) (fun _ hk => hk.2) (.int .i64 ((rd_T51 l0 x20_2).f0))) (fun _ hk => hk.2) (.int .i64 ((rd_T51 l0 x20_2).f1.f0))) (fun _ hk => hk.2) (.int .i64 ((rd_T51 l0 x20_2).f1.f1))) (fun _ hk => hk.2) (.int .i64 ((rd_T51 l0 x20_2).f2.f0))) (fun _ hk => hk.2) (.int .i64 ((rd_T51 l0 x20_2).f2.f1))) (fun _ hk => hk.1.2)⟩
       have n1_ : Aside0 ((((((w17.setCell ⟨gb144, 0, none⟩ (.int .i64 ((rd_T51 l0 x20_2).f0))).setCell ⟨gb144, 1, none⟩ (.int .i64 ((rd_T51 l0 x20_2).f1.f0))).setCell ⟨gb144, 2, none⟩ (.int .i64 ((rd_T51 l0 x20_2).f1.f1))).setCell ⟨gb144, 3, none⟩ (.int .i64 ((rd_T51 l0 x20_2).f2.f0))).setCell ⟨gb144, 4, none⟩ (.int .i64 ((rd_T51 l0 x20_2).f2.f1))).heap[gb140]? = some (.cells #[.int .i64 a1_0, .int .i64 a1_1] 24 (0, 0))) := ⟨by (with_reducible repeat (first | refine blk_drewN ?_ _ | refine blk_drew ?_ | refine blk_alloc ?_ _)); refine blk_far ?_ NB140_144.out _; (with_reducible repeat (first | refine blk_drewN ?_ _ | refine blk_drew ?_ | refine blk_alloc ?_ _)); refine blk_far ?_ NB140_144.out _; (with_reducible repeat (first | refine blk_drewN ?_ _ | refine blk_drew ?_ | refine blk_alloc ?_ _)); refine blk_far ?_ NB140_144.out _; (with_reducible repeat (first | refine blk_drewN ?_ _ | refine blk_drew ?_ | refine blk_alloc ?_ _)); refine blk_far ?_ NB140_144.out _; (with_reducible repeat (first | refine blk_drewN ?_ _ | refine blk_drew ?_ | refine blk_alloc ?_ _)); refine blk_far ?_ NB140_144.out _; (with_reducible repeat (first | refine blk_drewN ?_ _ | refine blk_drew ?_ | refine blk_alloc ?_ _)); exact BK140.out⟩
       have n2_ : Aside0 ((((((w17.setCell ⟨gb144, 0, none⟩ (.int .i64 ((rd_T51 l0 x20_2).f0))).setCell ⟨gb144, 1, none⟩ (.int .i64 ((rd_T51 l0 x20_2).f1.f0))).setCell ⟨gb144, 2, none⟩ (.int .i64 ((rd_T51 l0 x20_2).f1.f1))).setCell ⟨gb144, 3, none⟩ (.int .i64 ((rd_T51 l0 x20_2).f2.f0))).setCell ⟨gb144, 4, none⟩ (.int .i64 ((rd_T51 l0 x20_2).f2.f1))).heap[gb144]? = some (.cells #[.int .i64 ((rd_T51 l0 x20_2).f0), .int .i64 ((rd_T51 l0 x20_2).f1.f0), .int .i64 ((rd_T51 l0 x20_2).f1.f1), .int .i64 ((rd_T51 l0 x20_2).f2.f0), .int .i64 ((rd_T51 l0 x20_2).f2.f1)] 51 (0, 0))) := ⟨by (with_reducible repeat (first | refine blk_drewN ?_ _ | refine blk_drew ?_ | refine blk_alloc ?_ _)); refine blk_put (cs := #[.int .i64 ((rd_T51 l0 x20_2).f0), .int .i64 ((rd_T51 l0 x20_2).f1.f0), .int .i64 ((rd_T51 l0 x20_2).f1.f1), .int .i64 ((rd_T51 l0 x20_2).f2.f0), .int .i64 0]) ?_ 4 _ rfl; (with_reducible repeat (first | refine blk_drewN ?_ _ | refine blk_drew ?_ | refine blk_alloc ?_ _)); refine blk_put (cs := #[.int .i64 ((rd_T51 l0 x20_2).f0), .int .i64 ((rd_T51 l0 x20_2).f1.f0), .int .i64 ((rd_T51 l0 x20_2).f1.f1), .int .i64 0, .int .i64 0]) ?_ 3 _ rfl; (with_reducible repeat (first | refine blk_drewN ?_ _ | refine blk_drew ?_ | refine blk_alloc ?_ _)); refine blk_put (cs := #[.int .i64 ((rd_T51 l0 x20_2).f0), .int .i64 ((rd_T51 l0 x20_2).f1.f0), .int .i64 0, .int .i64 0, .int .i64 0]) ?_ 2 _ rfl; (with_reducible repeat (first | refine blk_drewN ?_ _ | refine blk_drew ?_ | refine blk_alloc ?_ _)); refine blk_put (cs := #[.int .i64 ((rd_T51 l0 x20_2).f0), .int .i64 0, .int .i64 0, .int .i64 0, .int .i64 0]) ?_ 1 _ rfl; (with_reducible repeat (first | refine blk_drewN ?_ _ | refine blk_drew ?_ | refine blk_alloc ?_ _)); refine blk_put (cs := #[.int .i64 0, .int .i64 0, .int .i64 0, .int .i64 0, .int .i64 0]) ?_ 0 _ rfl; (with_reducible repeat (first | refine blk_drewN ?_ _ | refine blk_drew ?_ | refine blk_alloc ?_ _)); exact BK144.out⟩
       have n3_ : Aside0 (Below w.heap.size w (((((w17.setCell ⟨gb144, 0, none⟩ (.int .i64 ((rd_T51 l0 x20_2).f0))).setCell ⟨gb144, 1, none⟩ (.int .i64 ((rd_T51 l0 x20_2).f1.f0))).setCell ⟨gb144, 2, none⟩ (.int .i64 ((rd_T51 l0 x20_2).f1.f1))).setCell ⟨gb144, 3, none⟩ (.int .i64 ((rd_T51 l0 x20_2).f2.f0))).setCell ⟨gb144, 4, none⟩ (.int .i64 ((rd_T51 l0 x20_2).f2.f1)))) := ⟨bs2_ HB GE140 GE144⟩
       (try clear HO_6)
       (try clear BK140)
       (try clear BK144)
       (try clear HB)
       generalize (((((w17.setCell ⟨gb144, 0, none⟩ (.int .i64 ((rd_T51 l0 x20_2).f0))).setCell ⟨gb144, 1, none⟩ (.int .i64 ((rd_T51 l0 x20_2).f1.f0))).setCell ⟨gb144, 2, none⟩ (.int .i64 ((rd_T51 l0 x20_2).f1.f1))).setCell ⟨gb144, 3, none⟩ (.int .i64 ((rd_T51 l0 x20_2).f2.f0))).setCell ⟨gb144, 4, none⟩ (.int .i64 ((rd_T51 l0 x20_2).f2.f1))) = w33 at n0_ n1_ n2_ n3_ ⊢
       have HO_6 := n0_
       have BK140 := n1_
       have BK144 := n2_
       have HB := n3_
       clear n0_ n1_ n2_ n3_
       have n0_ := mk_ (Kd.R_drew HO_6.out)
       have n1_ := mk_ (blk_drew BK140.out)
       have n2_ := mk_ (blk_drew BK144.out)
       have n3_ := mk_ (below_drew1 HB.out)
       clear HO_6
       clear BK140
       clear BK144
       clear HB
       have HO_6 := n0_
       have BK140 := n1_
       have BK144 := n2_
       have HB := n3_
       clear n0_ n1_ n2_ n3_
       refine start_ (n := 20) (S := fun w' => True) (ds := []) #[n_, n_, n_, n_, n_, n_, n_, n_, n_, n_, n_, n_, n_, n_, n_, n_, n_, n_, n_, n_] (by kernel_rfl) rfl rfl trivial (fun hHeld => ?_); refine with_tabW piecewise_Scale.tab7 piecewise_Scale.bits7 (fun HT_ HW_ => ?_)
       generalize w33.drew = w34 at HO_6 BK140 BK144 HB hHeld ⊢
       refine pu_ 0 25 (w_ 20 1) rfl HT_ ?_
       refine pu_ 1 26 (w_ 20 3) rfl HT_ ?_
       refine pu_ 2 27 (w_ 20 7) rfl HT_ ?_
       refine pn_ 3 28 (w_ 20 15) rfl HT_ ?_
       refine pn_ 4 29 (w_ 20 31) rfl HT_ ?_
       refine pn_ 5 30 (w_ 20 63) rfl HT_ ?_
       refine pn_ 6 31 (w_ 20 127) rfl HT_ ?_
       refine pn_ 7 32 (w_ 20 255) rfl HT_ ?_
       refine pn_ 8 33 (w_ 20 511) rfl HT_ ?_
       refine pn_ 9 34 (w_ 20 1023) rfl HT_ ?_
       refine pn_ 10 35 (w_ 20 2047) rfl HT_ ?_
       refine pn_ 11 36 (w_ 20 4095) rfl HT_ ?_
       refine pn_ 12 37 (w_ 20 8191) rfl HT_ ?_
       refine pn_ 13 38 (w_ 20 16383) rfl HT_ ?_
       refine pn_ 14 39 (w_ 20 32767) rfl HT_ ?_
       refine pn_ 15 40 (w_ 20 65535) rfl HT_ ?_
       refine pn_ 16 41 (w_ 20 131071) rfl HT_ ?_
       refine pn_ 17 42 (w_ 20 262143) rfl HT_ ?_
       refine pn_ 18 43 (w_ 20 524287) rfl HT_ ?_
       refine pu_ 19 44 (w_ 20 1048575) rfl HT_ ?_
       refine done_ (done_of HT_.out (by kernel_rfl)) ?_
       try go_wp2
       go_meet
       case rel => exact ⟨_, (false), sd_, H', ⟨by have := HJ2.out; have := HK2.out; first | omega | exact Nat.le_refl _⟩, ⟨rr_ HO_6⟩, ⟨kk_ BK140⟩, ⟨kk_ BK144⟩, ⟨bs2_ HB GE140 GE144⟩⟩
      rw [if_pos c20] at H
      have c20b0 : decide (0 < x20_2) = true := decide_eq_true c20
      clear c20
      (first | rw [c20b0] | (simp only [i64_w, i32_w]; rw [c20b0]) | skip)
      by_cases c21 : a1_0 = 0
      ·rw [if_pos c21] at H
       have c21b0 : (a1_0 == 0) = true := beq_iff_eq.mpr c21
       have c21b1 : (a1_0 != 0) = false := bne_eq_false_iff_eq.mpr c21
       clear c21
       have H' := mk_ H
       clear H
       try go_wp2
       have n0_ : Aside0 (Kd.R k51 51 (((((w17.setCell ⟨gb144, 0, none⟩ (.int .i64 ((rd_T51 l0 x20_2).f0))).setCell ⟨gb144, 1, none⟩ (.int .i64 ((rd_T51 l0 x20_2).f1.f0))).setCell ⟨gb144, 2, none⟩ (.int .i64 ((rd_T51 l0 x20_2).f1.f1))).setCell ⟨gb144, 3, none⟩ (.int .i64 ((rd_T51 l0 x20_2).f2.f0))).setCell ⟨gb144, 4, none⟩ (.int .i64 ((rd_T51 l0 x20_2).f2.f1))) w.heap.size (fun k_ => k_ ≠ gb144) u6 x6_2) := ⟨by (with_reducible repeat (first | apply Kd.R_alloc | apply Kd.R_drewN | apply Kd.R_drew)); exact Kd.R_mono (Kd.R_far (p := ⟨gb144, 4, none⟩) (Kd.R_far (p := ⟨gb144, 3, none⟩) (Kd.R_far (p := ⟨gb144, 2, none⟩) (Kd.R_far (p := ⟨gb144, 1, none⟩) (Kd.R_far (p := ⟨gb144, 0, none⟩) (Kd.R_mono HO_6.out (fun k_ hk => (⟨hk, hk.2⟩ : _ ∧ k_ ≠ gb144))) (fun _ hk => hk.2) (.int .i64 ((rd_T51 l0 x20_2).f0))) (fun _ hk => hk.2) (.int .i64 ((rd_T51 l0 x20_2).f1.f0))) (fun _ hk => hk.2) (.int .i64 ((rd_T51 l0 x20_2).f1.f1))) (fun _ hk => hk.2) (.int .i64 ((rd_T51 l0 x20_2).f2.f0))) (fun _ hk => hk.2) (.int .i64 ((rd_T51 l0 x20_2).f2.f1))) (fun _ hk => hk.1.2)⟩
       have n1_ : Aside0 ((((((w17.setCell ⟨gb144, 0, none⟩ (.int .i64 ((rd_T51 l0 x20_2).f0))).setCell ⟨gb144, 1, none⟩ (.int .i64 ((rd_T51 l0 x20_2).f1.f0))).setCell ⟨gb144, 2, none⟩ (.int .i64 ((rd_T51 l0 x20_2).f1.f1))).setCell ⟨gb144, 3, none⟩ (.int .i64 ((rd_T51 l0 x20_2).f2.f0))).setCell ⟨gb144, 4, none⟩ (.int .i64 ((rd_T51 l0 x20_2).f2.f1))).heap[gb140]? = some (.cells #[.int .i64 a1_0, .int .i64 a1_1] 24 (0, 0))) := ⟨by (with_reducible repeat (first | refine blk_drewN ?_ _ | refine blk_drew ?_ | refine blk_alloc ?_ _)); refine blk_far ?_ NB140_144.out _; (with_reducible repeat (first | refine blk_drewN ?_ _ | refine blk_drew ?_ | refine blk_alloc ?_ _)); refine blk_far ?_ NB140_144.out _; (with_reducible repeat (first | refine blk_drewN ?_ _ | refine blk_drew ?_ | refine blk_alloc ?_ _)); refine blk_far ?_ NB140_144.out _; (with_reducible repeat (first | refine blk_drewN ?_ _ | refine blk_drew ?_ | refine blk_alloc ?_ _)); refine blk_far ?_ NB140_144.out _; (with_reducible repeat (first | refine blk_drewN ?_ _ | refine blk_drew ?_ | refine blk_alloc ?_ _)); refine blk_far ?_ NB140_144.out _; (with_reducible repeat (first | refine blk_drewN ?_ _ | refine blk_drew ?_ | refine blk_alloc ?_ _)); exact BK140.out⟩
       have n2_ : Aside0 ((((((w17.setCell ⟨gb144, 0, none⟩ (.int .i64 ((rd_T51 l0 x20_2).f0))).setCell ⟨gb144, 1, none⟩ (.int .i64 ((rd_T51 l0 x20_2).f1.f0))).setCell ⟨gb144, 2, none⟩ (.int .i64 ((rd_T51 l0 x20_2).f1.f1))).setCell ⟨gb144, 3, none⟩ (.int .i64 ((rd_T51 l0 x20_2).f2.f0))).setCell ⟨gb144, 4, none⟩ (.int .i64 ((rd_T51 l0 x20_2).f2.f1))).heap[gb144]? = some (.cells #[.int .i64 ((rd_T51 l0 x20_2).f0), .int .i64 ((rd_T51 l0 x20_2).f1.f0), .int .i64 ((rd_T51 l0 x20_2).f1.f1), .int .i64 ((rd_T51 l0 x20_2).f2.f0), .int .i64 ((rd_T51 l0 x20_2).f2.f1)] 51 (0, 0))) := ⟨by (with_reducible repeat (first | refine blk_drewN ?_ _ | refine blk_drew ?_ | refine blk_alloc ?_ _)); refine blk_put (cs := #[.int .i64 ((rd_T51 l0 x20_2).f0), .int .i64 ((rd_T51 l0 x20_2).f1.f0), .int .i64 ((rd_T51 l0 x20_2).f1.f1), .int .i64 ((rd_T51 l0 x20_2).f2.f0), .int .i64 0]) ?_ 4 _ rfl; (with_reducible repeat (first | refine blk_drewN ?_ _ | refine blk_drew ?_ | refine blk_alloc ?_ _)); refine blk_put (cs := #[.int .i64 ((rd_T51 l0 x20_2).f0), .int .i64 ((rd_T51 l0 x20_2).f1.f0), .int .i64 ((rd_T51 l0 x20_2).f1.f1), .int .i64 0, .int .i64 0]) ?_ 3 _ rfl; (with_reducible repeat (first | refine blk_drewN ?_ _ | refine blk_drew ?_ | refine blk_alloc ?_ _)); refine blk_put (cs := #[.int .i64 ((rd_T51 l0 x20_2).f0), .int .i64 ((rd_T51 l0 x20_2).f1.f0), .int .i64 0, .int .i64 0, .int .i64 0]) ?_ 2 _ rfl; (with_reducible repeat (first | refine blk_drewN ?_ _ | refine blk_drew ?_ | refine blk_alloc ?_ _)); refine blk_put (cs := #[.int .i64 ((rd_T51 l0 x20_2).f0), .int .i64 0, .int .i64 0, .int .i64 0, .int .i64 0]) ?_ 1 _ rfl; (with_reducible repeat (first | refine blk_drewN ?_ _ | refine blk_drew ?_ | refine blk_alloc ?_ _)); refine blk_put (cs := #[.int .i64 0, .int .i64 0, .int .i64 0, .int .i64 0, .int .i64 0]) ?_ 0 _ rfl; (with_reducible repeat (first | refine blk_drewN ?_ _ | refine blk_drew ?_ | refine blk_alloc ?_ _)); exact BK144.out⟩
       have n3_ : Aside0 (Below w.heap.size w (((((w17.setCell ⟨gb144, 0, none⟩ (.int .i64 ((rd_T51 l0 x20_2).f0))).setCell ⟨gb144, 1, none⟩ (.int .i64 ((rd_T51 l0 x20_2).f1.f0))).setCell ⟨gb144, 2, none⟩ (.int .i64 ((rd_T51 l0 x20_2).f1.f1))).setCell ⟨gb144, 3, none⟩ (.int .i64 ((rd_T51 l0 x20_2).f2.f0))).setCell ⟨gb144, 4, none⟩ (.int .i64 ((rd_T51 l0 x20_2).f2.f1)))) := ⟨bs2_ HB GE140 GE144⟩
       (try clear HO_6)
       (try clear BK140)
       (try clear BK144)
       (try clear HB)
       generalize (((((w17.setCell ⟨gb144, 0, none⟩ (.int .i64 ((rd_T51 l0 x20_2).f0))).setCell ⟨gb144, 1, none⟩ (.int .i64 ((rd_T51 l0 x20_2).f1.f0))).setCell ⟨gb144, 2, none⟩ (.int .i64 ((rd_T51 l0 x20_2).f1.f1))).setCell ⟨gb144, 3, none⟩ (.int .i64 ((rd_T51 l0 x20_2).f2.f0))).setCell ⟨gb144, 4, none⟩ (.int .i64 ((rd_T51 l0 x20_2).f2.f1))) = w22 at n0_ n1_ n2_ n3_ ⊢
       have HO_6 := n0_
       have BK140 := n1_
       have BK144 := n2_
       have HB := n3_
       clear n0_ n1_ n2_ n3_
       have n0_ := mk_ (Kd.R_drew HO_6.out)
       have n1_ := mk_ (blk_drew BK140.out)
       have n2_ := mk_ (blk_drew BK144.out)
       have n3_ := mk_ (below_drew1 HB.out)
       clear HO_6
       clear BK140
       clear BK144
       clear HB
       have HO_6 := n0_
       have BK140 := n1_
       have BK144 := n2_
       have HB := n3_
       clear n0_ n1_ n2_ n3_
       refine start_ (n := 20) (S := fun w' => w'.cell? ⟨gb140, 0, none⟩ = some (.int .i64 a1_0) ∧ w'.cell? ⟨gb140, 1, none⟩ = some (.int .i64 a1_1)) (ds := []) #[n_, n_, n_, n_, n_, n_, n_, n_, n_, n_, n_, n_, n_, n_, n_, n_, n_, n_, n_, n_] (by kernel_rfl) rfl rfl ⟨(blk_cell BK140.out 0).trans rfl, (blk_cell BK140.out 1).trans rfl⟩ (fun hHeld => ?_); refine with_tabW piecewise_Scale.tab7 piecewise_Scale.bits7 (fun HT_ HW_ => ?_)
       generalize w22.drew = w23 at HO_6 BK140 BK144 HB hHeld ⊢
       refine pu_ 0 25 (w_ 20 1) rfl HT_ ?_
       refine pu_ 1 26 (w_ 20 3) rfl HT_ ?_
       refine pu_ 2 27 (w_ 20 7) rfl HT_ ?_
       refine pu_ 3 28 (w_ 20 15) rfl HT_ ?_
       refine ta_ 4 29 (w_ 20 31) rfl HT_ HW_ hHeld (by rintro w' ⟨s0, s1⟩; go_simp; with_reducible rfl) ?_
       refine pu_ 5 30 (w_ 20 63) rfl HT_ ?_
       refine pu_ 6 31 (w_ 20 127) rfl HT_ ?_
       refine pn_ 7 32 (w_ 20 255) rfl HT_ ?_
       refine pn_ 8 33 (w_ 20 511) rfl HT_ ?_
       refine pn_ 9 34 (w_ 20 1023) rfl HT_ ?_
       refine pn_ 10 35 (w_ 20 2047) rfl HT_ ?_
       refine pn_ 11 36 (w_ 20 4095) rfl HT_ ?_
       refine pn_ 12 37 (w_ 20 8191) rfl HT_ ?_
       refine pn_ 13 38 (w_ 20 16383) rfl HT_ ?_
       refine pn_ 14 39 (w_ 20 32767) rfl HT_ ?_
       refine pn_ 15 40 (w_ 20 65535) rfl HT_ ?_
       refine pn_ 16 41 (w_ 20 131071) rfl HT_ ?_
       refine pn_ 17 42 (w_ 20 262143) rfl HT_ ?_
       refine pu_ 18 43 (w_ 20 524287) rfl HT_ ?_
       refine pu_ 19 44 (w_ 20 1048575) rfl HT_ ?_
       refine done_ (done_of HT_.out (by kernel_rfl)) ?_
       try go_wp2
       go_meet
       case rel => exact ⟨_, (true), sd_, H', ⟨by have := HJ2.out; have := HK2.out; first | omega | exact Nat.le_refl _⟩, ⟨rr_ HO_6⟩, ⟨kk_ BK140⟩, ⟨kk_ BK144⟩, ⟨bs2_ HB GE140 GE144⟩⟩
      rw [if_neg c21] at H
      have c21b0 : (a1_0 == 0) = false := beq_eq_false_iff_ne.mpr c21
      have c21b1 : (a1_0 != 0) = true := bne_iff_ne.mpr c21
      obtain ⟨ji24, hji24⟩ : ∃ j_ : Int, (wrap64 (x20_2 - 1)) = j_ := ⟨_, rfl⟩
      replace H : (if 0 ≤ (ji24) then (if (ji24) < (l0.length : Int) then ((piecewise_lineOf.f ((rd_T51 l0 (ji24)).f0) ((rd_T51 l0 (ji24)).f1.f0) ((rd_T51 l0 (ji24)).f1.f1) ((rd_T51 l0 (ji24)).f2.f0) ((rd_T51 l0 (ji24)).f2.f1)).bind fun bt146 => ((piecewise_line_piece.f k2 bt146.1 bt146.2.1 bt146.2.2.1 bt146.2.2.2 ((rd_T51 l0 x20_2).f0)).bind fun bt150 => (piecewise_Scale.j2 k2 l0 x6_2 l0 (l0.length : Int) x20_2 (((rd_T51 l0 x20_2).f0) == bt150.1 && ((((rd_T51 l0 x20_2).f1.f0) == bt150.2.1 && (((rd_T51 l0 x20_2).f1.f1) == bt150.2.2.1)) && ((((rd_T51 l0 x20_2).f2.f0) == bt150.2.2.2.1 && (((rd_T51 l0 x20_2).f2.f1) == bt150.2.2.2.2))))) a1_0 a1_1 ((rd_T51 l0 x20_2).f0) ((rd_T51 l0 x20_2).f1.f0) ((rd_T51 l0 x20_2).f1.f1) ((rd_T51 l0 x20_2).f2.f0) ((rd_T51 l0 x20_2).f2.f1)))) else (none)) else (none)) = some (r1, r2) := by first | (rw [hji24] at H; exact H) | (simp only [hji24] at H ⊢; exact H)
      have hji24w : (IntKind.i64.wrap (x20_2 - 1)) = ji24 := (i64_w _).trans hji24
      by_cases c25 : 0 ≤ (ji24)
      rotate_left
      ·rw [if_neg c25] at H
       exact absurd H (by simp)
      rw [if_pos c25] at H
      have c25b0 : decide (0 ≤ (ji24)) = true := decide_eq_true c25
      clear c25
      by_cases c26 : (ji24) < (l0.length : Int)
      rotate_left
      ·rw [if_neg c26] at H
       exact absurd H (by simp)
      rw [if_pos c26] at H
      have c26b0 : decide ((ji24) < (l0.length : Int)) = true := decide_eq_true c26
      clear c26
      replace H := Option.bind_eq_some_iff.mp H
      obtain ⟨⟨t146, t147, t148, t149⟩, A270, H⟩ := H
      replace H : ((piecewise_line_piece.f k2 t146 t147 t148 t149 ((rd_T51 l0 x20_2).f0)).bind fun bt150 => (piecewise_Scale.j2 k2 l0 x6_2 l0 (l0.length : Int) x20_2 (((rd_T51 l0 x20_2).f0) == bt150.1 && ((((rd_T51 l0 x20_2).f1.f0) == bt150.2.1 && (((rd_T51 l0 x20_2).f1.f1) == bt150.2.2.1)) && ((((rd_T51 l0 x20_2).f2.f0) == bt150.2.2.2.1 && (((rd_T51 l0 x20_2).f2.f1) == bt150.2.2.2.2))))) a1_0 a1_1 ((rd_T51 l0 x20_2).f0) ((rd_T51 l0 x20_2).f1.f0) ((rd_T51 l0 x20_2).f1.f1) ((rd_T51 l0 x20_2).f2.f0) ((rd_T51 l0 x20_2).f2.f1))) = some (r1, r2) := H
      have A27 := mk_ A270
      clear A270
      replace H := Option.bind_eq_some_iff.mp H
      obtain ⟨⟨t150, t151, t152, t153, t154⟩, A280, H⟩ := H
      replace H : (piecewise_Scale.j2 k2 l0 x6_2 l0 (l0.length : Int) x20_2 (((rd_T51 l0 x20_2).f0) == t150 && ((((rd_T51 l0 x20_2).f1.f0) == t151 && (((rd_T51 l0 x20_2).f1.f1) == t152)) && ((((rd_T51 l0 x20_2).f2.f0) == t153 && (((rd_T51 l0 x20_2).f2.f1) == t154))))) a1_0 a1_1 ((rd_T51 l0 x20_2).f0) ((rd_T51 l0 x20_2).f1.f0) ((rd_T51 l0 x20_2).f1.f1) ((rd_T51 l0 x20_2).f2.f0) ((rd_T51 l0 x20_2).f2.f1)) = some (r1, r2) := H
      have A28 := mk_ A280
      clear A280
      have H' := mk_ H
      clear H
      try go_wp2
      have n0_ : Aside0 (Kd.R k51 51 (((((w17.setCell ⟨gb144, 0, none⟩ (.int .i64 ((rd_T51 l0 x20_2).f0))).setCell ⟨gb144, 1, none⟩ (.int .i64 ((rd_T51 l0 x20_2).f1.f0))).setCell ⟨gb144, 2, none⟩ (.int .i64 ((rd_T51 l0 x20_2).f1.f1))).setCell ⟨gb144, 3, none⟩ (.int .i64 ((rd_T51 l0 x20_2).f2.f0))).setCell ⟨gb144, 4, none⟩ (.int .i64 ((rd_T51 l0 x20_2).f2.f1))) w.heap.size (fun k_ => k_ ≠ gb144) u6 x6_2) := ⟨by (with_reducible repeat (first | apply Kd.R_alloc | apply Kd.R_drewN | apply Kd.R_drew)); exact Kd.R_mono (Kd.R_far (p := ⟨gb144, 4, none⟩) (Kd.R_far (p := ⟨gb144, 3, none⟩) (Kd.R_far (p := ⟨gb144, 2, none⟩) (Kd.R_far (p := ⟨gb144, 1, none⟩) (Kd.R_far (p := ⟨gb144, 0, none⟩) (Kd.R_mono HO_6.out (fun k_ hk => (⟨hk, hk.2⟩ : _ ∧ k_ ≠ gb144))) (fun _ hk => hk.2) (.int .i64 ((rd_T51 l0 x20_2).f0))) (fun _ hk => hk.2) (.int .i64 ((rd_T51 l0 x20_2).f1.f0))) (fun _ hk => hk.2) (.int .i64 ((rd_T51 l0 x20_2).f1.f1))) (fun _ hk => hk.2) (.int .i64 ((rd_T51 l0 x20_2).f2.f0))) (fun _ hk => hk.2) (.int .i64 ((rd_T51 l0 x20_2).f2.f1))) (fun _ hk => hk.1.2)⟩
      have n1_ : Aside0 ((((((w17.setCell ⟨gb144, 0, none⟩ (.int .i64 ((rd_T51 l0 x20_2).f0))).setCell ⟨gb144, 1, none⟩ (.int .i64 ((rd_T51 l0 x20_2).f1.f0))).setCell ⟨gb144, 2, none⟩ (.int .i64 ((rd_T51 l0 x20_2).f1.f1))).setCell ⟨gb144, 3, none⟩ (.int .i64 ((rd_T51 l0 x20_2).f2.f0))).setCell ⟨gb144, 4, none⟩ (.int .i64 ((rd_T51 l0 x20_2).f2.f1))).heap[gb140]? = some (.cells #[.int .i64 a1_0, .int .i64 a1_1] 24 (0, 0))) := ⟨by (with_reducible repeat (first | refine blk_drewN ?_ _ | refine blk_drew ?_ | refine blk_alloc ?_ _)); refine blk_far ?_ NB140_144.out _; (with_reducible repeat (first | refine blk_drewN ?_ _ | refine blk_drew ?_ | refine blk_alloc ?_ _)); refine blk_far ?_ NB140_144.out _; (with_reducible repeat (first | refine blk_drewN ?_ _ | refine blk_drew ?_ | refine blk_alloc ?_ _)); refine blk_far ?_ NB140_144.out _; (with_reducible repeat (first | refine blk_drewN ?_ _ | refine blk_drew ?_ | refine blk_alloc ?_ _)); refine blk_far ?_ NB140_144.out _; (with_reducible repeat (first | refine blk_drewN ?_ _ | refine blk_drew ?_ | refine blk_alloc ?_ _)); refine blk_far ?_ NB140_144.out _; (with_reducible repeat (first | refine blk_drewN ?_ _ | refine blk_drew ?_ | refine blk_alloc ?_ _)); exact BK140.out⟩
      have n2_ : Aside0 ((((((w17.setCell ⟨gb144, 0, none⟩ (.int .i64 ((rd_T51 l0 x20_2).f0))).setCell ⟨gb144, 1, none⟩ (.int .i64 ((rd_T51 l0 x20_2).f1.f0))).setCell ⟨gb144, 2, none⟩ (.int .i64 ((rd_T51 l0 x20_2).f1.f1))).setCell ⟨gb144, 3, none⟩ (.int .i64 ((rd_T51 l0 x20_2).f2.f0))).setCell ⟨gb144, 4, none⟩ (.int .i64 ((rd_T51 l0 x20_2).f2.f1))).heap[gb144]? = some (.cells #[.int .i64 ((rd_T51 l0 x20_2).f0), .int .i64 ((rd_T51 l0 x20_2).f1.f0), .int .i64 ((rd_T51 l0 x20_2).f1.f1), .int .i64 ((rd_T51 l0 x20_2).f2.f0), .int .i64 ((rd_T51 l0 x20_2).f2.f1)] 51 (0, 0))) := ⟨by (with_reducible repeat (first | refine blk_drewN ?_ _ | refine blk_drew ?_ | refine blk_alloc ?_ _)); refine blk_put (cs := #[.int .i64 ((rd_T51 l0 x20_2).f0), .int .i64 ((rd_T51 l0 x20_2).f1.f0), .int .i64 ((rd_T51 l0 x20_2).f1.f1), .int .i64 ((rd_T51 l0 x20_2).f2.f0), .int .i64 0]) ?_ 4 _ rfl; (with_reducible repeat (first | refine blk_drewN ?_ _ | refine blk_drew ?_ | refine blk_alloc ?_ _)); refine blk_put (cs := #[.int .i64 ((rd_T51 l0 x20_2).f0), .int .i64 ((rd_T51 l0 x20_2).f1.f0), .int .i64 ((rd_T51 l0 x20_2).f1.f1), .int .i64 0, .int .i64 0]) ?_ 3 _ rfl; (with_reducible repeat (first | refine blk_drewN ?_ _ | refine blk_drew ?_ | refine blk_alloc ?_ _)); refine blk_put (cs := #[.int .i64 ((rd_T51 l0 x20_2).f0), .int .i64 ((rd_T51 l0 x20_2).f1.f0), .int .i64 0, .int .i64 0, .int .i64 0]) ?_ 2 _ rfl; (with_reducible repeat (first | refine blk_drewN ?_ _ | refine blk_drew ?_ | refine blk_alloc ?_ _)); refine blk_put (cs := #[.int .i64 ((rd_T51 l0 x20_2).f0), .int .i64 0, .int .i64 0, .int .i64 0, .int .i64 0]) ?_ 1 _ rfl; (with_reducible repeat (first | refine blk_drewN ?_ _ | refine blk_drew ?_ | refine blk_alloc ?_ _)); refine blk_put (cs := #[.int .i64 0, .int .i64 0, .int .i64 0, .int .i64 0, .int .i64 0]) ?_ 0 _ rfl; (with_reducible repeat (first | refine blk_drewN ?_ _ | refine blk_drew ?_ | refine blk_alloc ?_ _)); exact BK144.out⟩
      have n3_ : Aside0 (Below w.heap.size w (((((w17.setCell ⟨gb144, 0, none⟩ (.int .i64 ((rd_T51 l0 x20_2).f0))).setCell ⟨gb144, 1, none⟩ (.int .i64 ((rd_T51 l0 x20_2).f1.f0))).setCell ⟨gb144, 2, none⟩ (.int .i64 ((rd_T51 l0 x20_2).f1.f1))).setCell ⟨gb144, 3, none⟩ (.int .i64 ((rd_T51 l0 x20_2).f2.f0))).setCell ⟨gb144, 4, none⟩ (.int .i64 ((rd_T51 l0 x20_2).f2.f1)))) := ⟨bs2_ HB GE140 GE144⟩
      (try clear HO_6)
      (try clear BK140)
      (try clear BK144)
      (try clear HB)
      generalize (((((w17.setCell ⟨gb144, 0, none⟩ (.int .i64 ((rd_T51 l0 x20_2).f0))).setCell ⟨gb144, 1, none⟩ (.int .i64 ((rd_T51 l0 x20_2).f1.f0))).setCell ⟨gb144, 2, none⟩ (.int .i64 ((rd_T51 l0 x20_2).f1.f1))).setCell ⟨gb144, 3, none⟩ (.int .i64 ((rd_T51 l0 x20_2).f2.f0))).setCell ⟨gb144, 4, none⟩ (.int .i64 ((rd_T51 l0 x20_2).f2.f1))) = w29 at n0_ n1_ n2_ n3_ ⊢
      have HO_6 := n0_
      have BK140 := n1_
      have BK144 := n2_
      have HB := n3_
      clear n0_ n1_ n2_ n3_
      have n0_ := mk_ (Kd.R_drew HO_6.out)
      have n1_ := mk_ (blk_drew BK140.out)
      have n2_ := mk_ (blk_drew BK144.out)
      have n3_ := mk_ (below_drew1 HB.out)
      clear HO_6
      clear BK140
      clear BK144
      clear HB
      have HO_6 := n0_
      have BK140 := n1_
      have BK144 := n2_
      have HB := n3_
      clear n0_ n1_ n2_ n3_
      have p145 : 0 ≤ ((ji24) : Int) := od_
      have q145 : (ji24) < (l0.length : Int) := od_
      obtain ⟨ad145, e145, hx145_0, hx145_1, hx145_2, hx145_3, hx145_4⟩ := at_T51 HR0.out (ji24) p145 q145
      have hw145_4 := hx145_4
      have hw145_3 := hx145_3
      have hw145_2 := hx145_2
      have hw145_1 := hx145_1
      have hw145_0 := hx145_0
      obtain rfl : ad143 = ad145 := (by injection e145)
      replace hx145_0 := cb_ HB hx145_0
      replace hx145_1 := cb_ HB hx145_1
      replace hx145_2 := cb_ HB hx145_2
      replace hx145_3 := cb_ HB hx145_3
      replace hx145_4 := cb_ HB hx145_4
      replace p145 := eq_true p145
      replace q145 := eq_true q145
      refine start_ (n := 20) (S := fun w' => w'.cell? ⟨gb140, 0, none⟩ = some (.int .i64 a1_0) ∧ w'.cell? ⟨gb140, 1, none⟩ = some (.int .i64 a1_1) ∧ w'.cell? ⟨gb144, 0, none⟩ = some (.int .i64 ((rd_T51 l0 x20_2).f0)) ∧ w'.cell? ⟨gb144, 1, none⟩ = some (.int .i64 ((rd_T51 l0 x20_2).f1.f0)) ∧ w'.cell? ⟨gb144, 2, none⟩ = some (.int .i64 ((rd_T51 l0 x20_2).f1.f1)) ∧ w'.cell? ⟨gb144, 3, none⟩ = some (.int .i64 ((rd_T51 l0 x20_2).f2.f0)) ∧ w'.cell? ⟨gb144, 4, none⟩ = some (.int .i64 ((rd_T51 l0 x20_2).f2.f1)) ∧ w'.cell? (ad143.add (((ji24)).toNat * 5)) = some (.int .i64 ((rd_T51 l0 (ji24)).f0)) ∧ w'.cell? ⟨(ad143.add (((ji24)).toNat * 5)).block, (ad143.add (((ji24)).toNat * 5)).off + 1, none⟩ = some (.int .i64 ((rd_T51 l0 (ji24)).f1.f0)) ∧ w'.cell? ⟨(ad143.add (((ji24)).toNat * 5)).block, (ad143.add (((ji24)).toNat * 5)).off + 2, none⟩ = some (.int .i64 ((rd_T51 l0 (ji24)).f1.f1)) ∧ w'.cell? ⟨(ad143.add (((ji24)).toNat * 5)).block, (ad143.add (((ji24)).toNat * 5)).off + 3, none⟩ = some (.int .i64 ((rd_T51 l0 (ji24)).f2.f0)) ∧ w'.cell? ⟨(ad143.add (((ji24)).toNat * 5)).block, (ad143.add (((ji24)).toNat * 5)).off + 4, none⟩ = some (.int .i64 ((rd_T51 l0 (ji24)).f2.f1))) (ds := []) #[n_, n_, n_, n_, n_, n_, n_, n_, n_, n_, n_, n_, n_, n_, n_, n_, n_, n_, n_, n_] (by kernel_rfl) rfl rfl ⟨(blk_cell BK140.out 0).trans rfl, (blk_cell BK140.out 1).trans rfl, (blk_cell BK144.out 0).trans rfl, (blk_cell BK144.out 1).trans rfl, (blk_cell BK144.out 2).trans rfl, (blk_cell BK144.out 3).trans rfl, (blk_cell BK144.out 4).trans rfl, (cb_ HB hw145_0), (cb_ HB hw145_1), (cb_ HB hw145_2), (cb_ HB hw145_3), (cb_ HB hw145_4)⟩ (fun hHeld => ?_); refine with_tabW piecewise_Scale.tab7 piecewise_Scale.bits7 (fun HT_ HW_ => ?_)
      generalize w29.drew = w30 at HO_6 BK140 BK144 HB hx145_0 hx145_1 hx145_2 hx145_3 hx145_4 hHeld ⊢
      refine pu_ 0 25 (w_ 20 1) rfl HT_ ?_
      refine pu_ 1 26 (w_ 20 3) rfl HT_ ?_
      refine pu_ 2 27 (w_ 20 7) rfl HT_ ?_
      refine pu_ 3 28 (w_ 20 15) rfl HT_ ?_
      refine ta_ 4 29 (w_ 20 31) rfl HT_ HW_ hHeld (by rintro w' ⟨s0, s1, s2, s3, s4, s5, s6, s7, s8, s9, s10, s11⟩; go_simp; with_reducible rfl) ?_
      refine pu_ 5 30 (w_ 20 63) rfl HT_ ?_
      refine pu_ 6 31 (w_ 20 127) rfl HT_ ?_
      refine pu_ 8 33 (w_ 20 383) rfl HT_ ?_
      refine pu_ 9 34 (w_ 20 895) rfl HT_ ?_
      refine pu_ 10 35 (w_ 20 1919) rfl HT_ ?_
      refine pu_ 11 36 (w_ 20 3967) rfl HT_ ?_
      refine pu_ 14 39 (w_ 20 20351) rfl HT_ ?_
      refine ta_ 7 32 (w_ 20 20479) rfl HT_ HW_ hHeld (by rintro w' ⟨s0, s1, s2, s3, s4, s5, s6, s7, s8, s9, s10, s11⟩; go_simp; with_reducible rfl) ?_
      refine ta_ 12 37 (w_ 20 24575) rfl HT_ HW_ hHeld (by rintro w' ⟨s0, s1, s2, s3, s4, s5, s6, s7, s8, s9, s10, s11⟩; go_simp; with_reducible rfl) ?_
      refine ta_ 15 40 (w_ 20 57343) rfl HT_ HW_ hHeld (by rintro w' ⟨s0, s1, s2, s3, s4, s5, s6, s7, s8, s9, s10, s11⟩; go_simp; with_reducible rfl) ?_
      refine one_ (i := 13) (N := some 38) (w_ 20 65535) rfl rfl (one_of HT_.out (by kernel_rfl)) (by decide) (fun K hK => ?_)
      refine goes_ Try.func46 (by kernel_rfl) rfl #[.agg #[.int .i64 ((rd_T51 l0 (ji24)).f0), .int .i64 ((rd_T51 l0 (ji24)).f1.f0), .int .i64 ((rd_T51 l0 (ji24)).f1.f1), .int .i64 ((rd_T51 l0 (ji24)).f2.f0), .int .i64 ((rd_T51 l0 (ji24)).f2.f1)]] (by rfl) rfl rfl (by (try simp only [List.map_toArray, List.map_cons, List.map_nil]); first | done | (simp only [hji24]; rfl) | rfl | (simp only [List.length_drop, List.length_take]; rfl)) ?_
      with_reducible refine (piecewise_lineOf.calls ((rd_T51 l0 (ji24)).f0) ((rd_T51 l0 (ji24)).f1.f0) ((rd_T51 l0 (ji24)).f1.f1) ((rd_T51 l0 (ji24)).f2.f0) ((rd_T51 l0 (ji24)).f2.f1) t146 t147 t148 t149 _ A27.out).mono ?_
      rintro e w31 ⟨rfl, hb⟩
      refine ⟨_, rfl, ?_⟩
      have n0_ := mk_ (Kd.R_below (rr_ HO_6) hb)
      have n1_ := mk_ (blk_below (kk_ BK140) hb)
      have n2_ := mk_ (blk_below (kk_ BK144) hb)
      have n3_ := mk_ (below_step (bs2_ HB GE140 GE144) hb)
      clear HO_6
      clear BK140
      clear BK144
      clear HB
      have HO_6 := n0_
      have BK140 := n1_
      have BK144 := n2_
      have HB := n3_
      clear n0_ n1_ n2_ n3_
      (try clear hb)
      (try clear hb2)
      (try clear hk)
      (try clear hi)
      refine hK.out _ _ ⟨(blk_cell BK140.out 0).trans rfl, (blk_cell BK140.out 1).trans rfl, (blk_cell BK144.out 0).trans rfl, (blk_cell BK144.out 1).trans rfl, (blk_cell BK144.out 2).trans rfl, (blk_cell BK144.out 3).trans rfl, (blk_cell BK144.out 4).trans rfl, (cb_ HB hw145_0), (cb_ HB hw145_1), (cb_ HB hw145_2), (cb_ HB hw145_3), (cb_ HB hw145_4)⟩ (fun hHeld => ?_)
      clear hK K
      refine norm_ (a' := ?_) ?_ ?_
      rotate_left
      ·show Act.put _ (some 38) _ = _
       simp only [Act.put, sI_, s0_, sS_, i64_w, i32_w]
       rfl
      refine one_ (i := 16) (N := some 41) (w_ 20 131071) rfl rfl (one_of HT_.out (by kernel_rfl)) (by decide) (fun K hK => ?_)
      refine goes_ Try.func47 (by kernel_rfl) rfl #[.agg #[.int .i64 t146, .int .i64 t147, .int .i64 t148, .int .i64 t149], .int .i64 ((rd_T51 l0 x20_2).f0)] (by rfl) rfl rfl (by (try simp only [List.map_toArray, List.map_cons, List.map_nil]); first | done | rfl | (simp only [List.length_drop, List.length_take]; rfl)) ?_
      with_reducible refine (piecewise_line_piece.calls k2 t146 t147 t148 t149 ((rd_T51 l0 x20_2).f0) t150 t151 t152 t153 t154 _ A28.out).mono ?_
      rintro e w32 ⟨rfl, hb⟩
      refine ⟨_, rfl, ?_⟩
      have n0_ := mk_ (Kd.R_below (rr_ HO_6) hb)
      have n1_ := mk_ (blk_below (kk_ BK140) hb)
      have n2_ := mk_ (blk_below (kk_ BK144) hb)
      have n3_ := mk_ (below_step (bs2_ HB GE140 GE144) hb)
      clear HO_6
      clear BK140
      clear BK144
      clear HB
      have HO_6 := n0_
      have BK140 := n1_
      have BK144 := n2_
      have HB := n3_
      clear n0_ n1_ n2_ n3_
      (try clear hb)
      (try clear hb2)
      (try clear hk)
      (try clear hi)
      refine hK.out _ _ ⟨(blk_cell BK140.out 0).trans rfl, (blk_cell BK140.out 1).trans rfl, (blk_cell BK144.out 0).trans rfl, (blk_cell BK144.out 1).trans rfl, (blk_cell BK144.out 2).trans rfl, (blk_cell BK144.out 3).trans rfl, (blk_cell BK144.out 4).trans rfl, (cb_ HB hw145_0), (cb_ HB hw145_1), (cb_ HB hw145_2), (cb_ HB hw145_3), (cb_ HB hw145_4)⟩ (fun hHeld => ?_)
      clear hK K
      refine norm_ (a' := ?_) ?_ ?_
      rotate_left
      ·show Act.put _ (some 41) _ = _
       simp only [Act.put, sI_, s0_, sS_, i64_w, i32_w]
       rfl
      refine pu_ 17 42 (w_ 20 262143) rfl HT_ ?_
      refine pu_ 18 43 (w_ 20 524287) rfl HT_ ?_
      refine pu_ 19 44 (w_ 20 1048575) rfl HT_ ?_
      refine done_ (done_of HT_.out (by kernel_rfl)) ?_
      try go_wp2
      go_meet
      case rel => exact ⟨_, ((((rd_T51 l0 x20_2).f0) == t150 && ((((rd_T51 l0 x20_2).f1.f0) == t151 && (((rd_T51 l0 x20_2).f1.f1) == t152)) && ((((rd_T51 l0 x20_2).f2.f0) == t153 && (((rd_T51 l0 x20_2).f2.f1) == t154)))))), sd_, H', ⟨by have := HJ2.out; have := HK2.out; first | omega | exact Nat.le_refl _⟩, ⟨rr_ HO_6⟩, ⟨kk_ BK140⟩, ⟨kk_ BK144⟩, ⟨bs2_ HB GE140 GE144⟩⟩
     case rest =>
      clear HC16
      try clear c1; try clear p1; try clear q1; try clear hx1; try clear c2; try clear p2; try clear c4; try clear p6; try clear p14; try clear q14; try clear hx14; try clear c18; try clear c20; try clear c20b0; try clear c21; try clear c21b0; try clear c21b1; try clear c25; try clear c25b0; try clear c26; try clear c26b0; try clear hcz19_0; try clear hcz19_1; try clear hcz19_2; try clear hcz19_3; try clear hcz19_4; try clear hfz19_0; try clear hfz19_1; try clear hfz19_2; try clear hfz19_3; try clear hfz19_4; try clear hx143_0; try clear hx143_1; try clear hx143_2; try clear hx143_3; try clear hx143_4; try clear hx145_0; try clear hx145_1; try clear hx145_2; try clear hx145_3; try clear hx145_4; try clear p143; try clear p145; try clear q143; try clear q145
      obtain ⟨kq, x44_15, rfl, HA, HJ15, HO_6, BK140, BK144, HB⟩ := hcut
      cases kq with
      | zero => exact absurd HA.out (by simp [piecewise_Scale.j2])
      | succ kj15 =>
       have H := HA.out
       clear HA
       simp only [piecewise_Scale.j2] at H
       by_cases c35 : x44_15 = true
       ·subst c35
        have H1 : (piecewise_Scale.l0 kj15 l0 x6_2 l0 (l0.length : Int) (wrap64 (x20_2 + 1)) a1_0 a1_1) = some (r1, r2) := by rw [if_pos rfl] at H; exact H
        clear H
        have H := H1
        clear H1
        have H' := mk_ H
        clear H
        go_wp2
        go_roundg kj15
        case measure => have := HJ2.out; have := HK2.out; have := HJ15.out; omega
        case rel => exact ⟨(x6_2), (wrap64 (x20_2 + 1)), sd_, H', ⟨by have := HJ2.out; have := HK2.out; have := HJ15.out; omega⟩, ⟨by (with_reducible repeat (first | apply Kd.R_alloc | apply Kd.R_drewN | apply Kd.R_drew)); exact Kd.R_mono HO_6.out (fun _ hk => trivial)⟩, ⟨kk_ BK140⟩, ⟨bs2_ HB GE140 GE144⟩⟩
       replace c35 := Bool.eq_false_iff.mpr c35
       subst c35
       have H1 : ((piecewise_lowest.f kj15 (wrap64 (((rd_T51 l0 x20_2).f1.f0) * a1_0)) (wrap64 (((rd_T51 l0 x20_2).f1.f1) * a1_1))).bind fun bt155 => ((piecewise_lowest.f kj15 (wrap64 (((rd_T51 l0 x20_2).f2.f0) * a1_0)) (wrap64 (((rd_T51 l0 x20_2).f2.f1) * a1_1))).bind fun bt157 => ((piecewise_numbers.f ((rd_T51 l0 x20_2).f0) bt155.1 bt155.2 bt157.1 bt157.2).bind fun t160 => (if t160 = true then (if x6_2.length < 3518437208883 then (piecewise_Scale.l0 kj15 l0 (x6_2 ++ [(⟨((rd_T51 l0 x20_2).f0), (⟨bt155.1, bt155.2⟩ : S24), (⟨bt157.1, bt157.2⟩ : S24)⟩ : S51)]) l0 (l0.length : Int) (wrap64 (x20_2 + 1)) a1_0 a1_1) else (none)) else (some (([] : List (S51)), 3)))))) = some (r1, r2) := by rw [if_neg (show ¬ (false = true) by decide)] at H; exact H
       clear H
       have H := H1
       clear H1
       replace H := Option.bind_eq_some_iff.mp H
       obtain ⟨⟨t155, t156⟩, A360, H⟩ := H
       replace H : ((piecewise_lowest.f kj15 (wrap64 (((rd_T51 l0 x20_2).f2.f0) * a1_0)) (wrap64 (((rd_T51 l0 x20_2).f2.f1) * a1_1))).bind fun bt157 => ((piecewise_numbers.f ((rd_T51 l0 x20_2).f0) t155 t156 bt157.1 bt157.2).bind fun t160 => (if t160 = true then (if x6_2.length < 3518437208883 then (piecewise_Scale.l0 kj15 l0 (x6_2 ++ [(⟨((rd_T51 l0 x20_2).f0), (⟨t155, t156⟩ : S24), (⟨bt157.1, bt157.2⟩ : S24)⟩ : S51)]) l0 (l0.length : Int) (wrap64 (x20_2 + 1)) a1_0 a1_1) else (none)) else (some (([] : List (S51)), 3))))) = some (r1, r2) := H
       have A36 := mk_ A360
       clear A360
       replace H := Option.bind_eq_some_iff.mp H
       obtain ⟨⟨t157, t158⟩, A370, H⟩ := H
       replace H : ((piecewise_numbers.f ((rd_T51 l0 x20_2).f0) t155 t156 t157 t158).bind fun t160 => (if t160 = true then (if x6_2.length < 3518437208883 then (piecewise_Scale.l0 kj15 l0 (x6_2 ++ [(⟨((rd_T51 l0 x20_2).f0), (⟨t155, t156⟩ : S24), (⟨t157, t158⟩ : S24)⟩ : S51)]) l0 (l0.length : Int) (wrap64 (x20_2 + 1)) a1_0 a1_1) else (none)) else (some (([] : List (S51)), 3)))) = some (r1, r2) := H
       have A37 := mk_ A370
       clear A370
       replace H := Option.bind_eq_some_iff.mp H
       obtain ⟨t160, A380, H⟩ := H
       replace H : (if t160 = true then (if x6_2.length < 3518437208883 then (piecewise_Scale.l0 kj15 l0 (x6_2 ++ [(⟨((rd_T51 l0 x20_2).f0), (⟨t155, t156⟩ : S24), (⟨t157, t158⟩ : S24)⟩ : S51)]) l0 (l0.length : Int) (wrap64 (x20_2 + 1)) a1_0 a1_1) else (none)) else (some (([] : List (S51)), 3))) = some (r1, r2) := H
       have A38 := mk_ A380
       clear A380
       by_cases c39 : t160 = true
       rotate_left
       ·replace c39 := Bool.eq_false_iff.mpr c39
        subst c39
        have H1 : (some (([] : List (S51)), 3)) = some (r1, r2) := by rw [if_neg (show ¬ (false = true) by decide)] at H; exact H
        clear H
        have H := H1
        clear H1
        simp only [Option.some.injEq, Prod.mk.injEq] at H
        obtain ⟨rfl, rfl⟩ := H
        try go_wp2
        have n0_ := mk_ (Kd.R_drew HO_6.out)
        have n1_ := mk_ (blk_drew BK140.out)
        have n2_ := mk_ (blk_drew BK144.out)
        have n3_ := mk_ (below_drew1 HB.out)
        clear HO_6
        clear BK140
        clear BK144
        clear HB
        have HO_6 := n0_
        have BK140 := n1_
        have BK144 := n2_
        have HB := n3_
        clear n0_ n1_ n2_ n3_
        refine start_ (n := 31) (S := fun w' => w'.cell? ⟨gb144, 0, none⟩ = some (.int .i64 ((rd_T51 l0 x20_2).f0)) ∧ w'.cell? ⟨gb144, 1, none⟩ = some (.int .i64 ((rd_T51 l0 x20_2).f1.f0)) ∧ w'.cell? ⟨gb144, 2, none⟩ = some (.int .i64 ((rd_T51 l0 x20_2).f1.f1)) ∧ w'.cell? ⟨gb144, 3, none⟩ = some (.int .i64 ((rd_T51 l0 x20_2).f2.f0)) ∧ w'.cell? ⟨gb144, 4, none⟩ = some (.int .i64 ((rd_T51 l0 x20_2).f2.f1)) ∧ w'.cell? ⟨gb140, 0, none⟩ = some (.int .i64 a1_0) ∧ w'.cell? ⟨gb140, 1, none⟩ = some (.int .i64 a1_1)) (ds := []) #[n_, n_, n_, n_, n_, n_, n_, n_, n_, n_, n_, n_, n_, n_, n_, n_, n_, n_, n_, n_, n_, n_, n_, n_, n_, n_, n_, n_, n_, n_, n_] (by kernel_rfl) rfl rfl ⟨(blk_cell BK144.out 0).trans rfl, (blk_cell BK144.out 1).trans rfl, (blk_cell BK144.out 2).trans rfl, (blk_cell BK144.out 3).trans rfl, (blk_cell BK144.out 4).trans rfl, (blk_cell BK140.out 0).trans rfl, (blk_cell BK140.out 1).trans rfl⟩ (fun hHeld => ?_); refine with_tabW piecewise_Scale.tab8 piecewise_Scale.bits8 (fun HT_ HW_ => ?_)
        generalize wc.drew = w57 at HO_6 BK140 BK144 HB hHeld ⊢
        refine pu_ 0 45 (w_ 31 1) rfl HT_ ?_
        refine pu_ 2 47 (w_ 31 5) rfl HT_ ?_
        refine pu_ 3 48 (w_ 31 13) rfl HT_ ?_
        refine pu_ 5 50 (w_ 31 45) rfl HT_ ?_
        refine pu_ 8 53 (w_ 31 301) rfl HT_ ?_
        refine pu_ 9 54 (w_ 31 813) rfl HT_ ?_
        refine pu_ 11 56 (w_ 31 2861) rfl HT_ ?_
        refine pu_ 15 60 (w_ 31 35629) rfl HT_ ?_
        refine pu_ 16 61 (w_ 31 101165) rfl HT_ ?_
        refine pu_ 18 63 (w_ 31 363309) rfl HT_ ?_
        refine pu_ 21 66 (w_ 31 2460461) rfl HT_ ?_
        refine pu_ 22 67 (w_ 31 6654765) rfl HT_ ?_
        refine pu_ 24 69 (w_ 31 23431981) rfl HT_ ?_
        refine ta_ 1 46 (w_ 31 23431983) rfl HT_ HW_ hHeld (by rintro w' ⟨s0, s1, s2, s3, s4, s5, s6⟩; go_simp; with_reducible rfl) ?_
        refine ta_ 4 49 (w_ 31 23431999) rfl HT_ HW_ hHeld (by rintro w' ⟨s0, s1, s2, s3, s4, s5, s6⟩; go_simp; with_reducible rfl) ?_
        refine ta_ 6 51 (w_ 31 23432063) rfl HT_ HW_ hHeld (by rintro w' ⟨s0, s1, s2, s3, s4, s5, s6⟩; go_simp; with_reducible rfl) ?_
        refine pu_ 7 52 (w_ 31 23432191) rfl HT_ ?_
        refine ta_ 10 55 (w_ 31 23433215) rfl HT_ HW_ hHeld (by rintro w' ⟨s0, s1, s2, s3, s4, s5, s6⟩; go_simp; with_reducible rfl) ?_
        refine ta_ 12 57 (w_ 31 23437311) rfl HT_ HW_ hHeld (by rintro w' ⟨s0, s1, s2, s3, s4, s5, s6⟩; go_simp; with_reducible rfl) ?_
        refine pu_ 13 58 (w_ 31 23445503) rfl HT_ ?_
        refine ta_ 17 62 (w_ 31 23576575) rfl HT_ HW_ hHeld (by rintro w' ⟨s0, s1, s2, s3, s4, s5, s6⟩; go_simp; with_reducible rfl) ?_
        refine ta_ 19 64 (w_ 31 24100863) rfl HT_ HW_ hHeld (by rintro w' ⟨s0, s1, s2, s3, s4, s5, s6⟩; go_simp; with_reducible rfl) ?_
        refine pu_ 20 65 (w_ 31 25149439) rfl HT_ ?_
        refine ta_ 23 68 (w_ 31 33538047) rfl HT_ HW_ hHeld (by rintro w' ⟨s0, s1, s2, s3, s4, s5, s6⟩; go_simp; with_reducible rfl) ?_
        refine ta_ 25 70 (w_ 31 67092479) rfl HT_ HW_ hHeld (by rintro w' ⟨s0, s1, s2, s3, s4, s5, s6⟩; go_simp; with_reducible rfl) ?_
        refine pu_ 26 71 (w_ 31 134201343) rfl HT_ ?_
        refine join_ (σ := Nat) 1 #[y_, y_, y_, y_, y_, y_, y_, y_, y_, y_, y_, y_, y_, y_, y_, y_, y_, y_, y_, y_, y_, y_, y_, y_, y_, y_, y_, y_, y_, y_, n_] (fun s_ => [(59, .agg #[.int .i64 t155, .int .i64 t156]), (72, .agg #[.int .i64 t157, .int .i64 t158]), (9, .pointer (some ⟨s_, 0, none⟩)), (73, .agg #[.int .i64 ((rd_T51 l0 x20_2).f0), .int .i64 t155, .int .i64 t156, .int .i64 t157, .int .i64 t158])]) (fun s_ w' => (w'.cell? ⟨gb144, 0, none⟩ = some (.int .i64 ((rd_T51 l0 x20_2).f0)) ∧ w'.cell? ⟨gb144, 1, none⟩ = some (.int .i64 ((rd_T51 l0 x20_2).f1.f0)) ∧ w'.cell? ⟨gb144, 2, none⟩ = some (.int .i64 ((rd_T51 l0 x20_2).f1.f1)) ∧ w'.cell? ⟨gb144, 3, none⟩ = some (.int .i64 ((rd_T51 l0 x20_2).f2.f0)) ∧ w'.cell? ⟨gb144, 4, none⟩ = some (.int .i64 ((rd_T51 l0 x20_2).f2.f1)) ∧ w'.cell? ⟨gb140, 0, none⟩ = some (.int .i64 a1_0) ∧ w'.cell? ⟨gb140, 1, none⟩ = some (.int .i64 a1_1)) ∧ (Kd.R k51 51 w' w.heap.size (fun k_ => k_ ≠ gb144 ∧ k_ ≠ s_) u6 x6_2) ∧ (w'.heap[gb140]? = some (.cells #[.int .i64 a1_0, .int .i64 a1_1] 24 (0, 0))) ∧ (w'.heap[gb144]? = some (.cells #[.int .i64 ((rd_T51 l0 x20_2).f0), .int .i64 ((rd_T51 l0 x20_2).f1.f0), .int .i64 ((rd_T51 l0 x20_2).f1.f1), .int .i64 ((rd_T51 l0 x20_2).f2.f0), .int .i64 ((rd_T51 l0 x20_2).f2.f1)] 51 (0, 0))) ∧ (w'.heap[s_]? = some (.cells #[.int .i64 0, .int .i64 0, .int .i64 0, .int .i64 0, .int .i64 0] 51 (0, 0))) ∧ (w.heap.size ≤ s_) ∧ (w.heap.size ≤ s_) ∧ (gb140 ≠ s_) ∧ (s_ ≠ gb140) ∧ (gb144 ≠ s_) ∧ (s_ ≠ gb144) ∧ (Below w.heap.size w w')) ?_ ?_
        rotate_left
        ·intro hCont
         refine two_ (i := 14) (j := 29) (Ni := some 59) (Nj := some 9) #[y_, y_, y_, y_, y_, y_, y_, y_, y_, y_, y_, y_, y_, y_, y_, y_, y_, y_, y_, y_, y_, y_, y_, y_, y_, y_, y_, n_, n_, n_, n_] #[y_, y_, y_, y_, y_, y_, y_, y_, y_, y_, y_, y_, y_, y_, n_, y_, y_, y_, y_, y_, y_, y_, y_, y_, y_, y_, y_, n_, n_, y_, n_] rfl rfl rfl rfl (two_of HT_.out (by kernel_rfl)) (by decide) (by decide) (fun K hK => ?_) (fun K hK => ?_)
         ·skip
          refine goes_ Try.func35 (by kernel_rfl) rfl #[.int .i64 (wrap64 (((rd_T51 l0 x20_2).f1.f0) * a1_0)), .int .i64 (wrap64 (((rd_T51 l0 x20_2).f1.f1) * a1_1))] (by rfl) rfl rfl (by (try simp only [List.map_toArray, List.map_cons, List.map_nil]); first | done | rfl | (simp only [List.length_drop, List.length_take]; rfl)) ?_
          with_reducible refine (piecewise_lowest.calls kj15 (wrap64 (((rd_T51 l0 x20_2).f1.f0) * a1_0)) (wrap64 (((rd_T51 l0 x20_2).f1.f1) * a1_1)) t155 t156 _ A36.out).mono ?_
          rintro e w58 ⟨rfl, hb⟩
          refine ⟨_, rfl, ?_⟩
          have n0_ := mk_ (Kd.R_below (rr_ HO_6) hb)
          have n1_ := mk_ (blk_below (kk_ BK140) hb)
          have n2_ := mk_ (blk_below (kk_ BK144) hb)
          have n3_ := mk_ (below_step (bs2_ HB GE140 GE144) hb)
          clear HO_6
          clear BK140
          clear BK144
          clear HB
          have HO_6 := n0_
          have BK140 := n1_
          have BK144 := n2_
          have HB := n3_
          clear n0_ n1_ n2_ n3_
          (try clear hb)
          (try clear hb2)
          (try clear hk)
          (try clear hi)
          refine hK.out _ _ ⟨(blk_cell BK144.out 0).trans rfl, (blk_cell BK144.out 1).trans rfl, (blk_cell BK144.out 2).trans rfl, (blk_cell BK144.out 3).trans rfl, (blk_cell BK144.out 4).trans rfl, (blk_cell BK140.out 0).trans rfl, (blk_cell BK140.out 1).trans rfl⟩ (fun hHeld => ?_)
          clear hK K
          refine norm_ (a' := ?_) ?_ ?_
          rotate_left
          ·show Act.put _ (some 59) _ = _
           simp only [Act.put, sI_, s0_, sS_, i64_w, i32_w]
           rfl
          refine two_ (i := 27) (j := 29) (Ni := some 72) (Nj := some 9) #[y_, y_, y_, y_, y_, y_, y_, y_, y_, y_, y_, y_, y_, y_, y_, y_, y_, y_, y_, y_, y_, y_, y_, y_, y_, y_, y_, y_, n_, n_, n_] #[y_, y_, y_, y_, y_, y_, y_, y_, y_, y_, y_, y_, y_, y_, y_, y_, y_, y_, y_, y_, y_, y_, y_, y_, y_, y_, y_, n_, n_, y_, n_] rfl rfl rfl rfl (two_of HT_.out (by kernel_rfl)) (by decide) (by decide) (fun K hK => ?_) (fun K hK => ?_)
          ·skip
           refine goes_ Try.func35 (by kernel_rfl) rfl #[.int .i64 (wrap64 (((rd_T51 l0 x20_2).f2.f0) * a1_0)), .int .i64 (wrap64 (((rd_T51 l0 x20_2).f2.f1) * a1_1))] (by rfl) rfl rfl (by (try simp only [List.map_toArray, List.map_cons, List.map_nil]); first | done | rfl | (simp only [List.length_drop, List.length_take]; rfl)) ?_
           with_reducible refine (piecewise_lowest.calls kj15 (wrap64 (((rd_T51 l0 x20_2).f2.f0) * a1_0)) (wrap64 (((rd_T51 l0 x20_2).f2.f1) * a1_1)) t157 t158 _ A37.out).mono ?_
           rintro e w59 ⟨rfl, hb⟩
           refine ⟨_, rfl, ?_⟩
           have n0_ := mk_ (Kd.R_below (rr_ HO_6) hb)
           have n1_ := mk_ (blk_below (kk_ BK140) hb)
           have n2_ := mk_ (blk_below (kk_ BK144) hb)
           have n3_ := mk_ (below_step (bs2_ HB GE140 GE144) hb)
           clear HO_6
           clear BK140
           clear BK144
           clear HB
           have HO_6 := n0_
           have BK140 := n1_
           have BK144 := n2_
           have HB := n3_
           clear n0_ n1_ n2_ n3_
           (try clear hb)
           (try clear hb2)
           (try clear hk)
           (try clear hi)
           refine hK.out _ _ ⟨(blk_cell BK144.out 0).trans rfl, (blk_cell BK144.out 1).trans rfl, (blk_cell BK144.out 2).trans rfl, (blk_cell BK144.out 3).trans rfl, (blk_cell BK144.out 4).trans rfl, (blk_cell BK140.out 0).trans rfl, (blk_cell BK140.out 1).trans rfl⟩ (fun hHeld => ?_)
           clear hK K
           refine norm_ (a' := ?_) ?_ ?_
           rotate_left
           ·show Act.put _ (some 72) _ = _
            simp only [Act.put, sI_, s0_, sS_, i64_w, i32_w]
            rfl
           refine pu_ 28 73 (w_ 31 536870911) rfl HT_ ?_
           refine one_ (i := 29) (N := some 9) (w_ 31 1073741823) rfl rfl (one_of HT_.out (by kernel_rfl)) (by decide) (fun K hK => ?_)
           refine box_step ?hg (N := 9) ?hd (cs := #[.int .i64 0, .int .i64 0, .int .i64 0, .int .i64 0, .int .i64 0]) (t := 51) ?hr ?_; (case hd => rfl); (case hg => rfl); (case hr => first | (go_simp; done) | (go_simp; rfl))
           intro gb159 hg w60 hbox hb
           have n0_ := mk_ (Kd.R_below (Kd.R_elderB (rr_ HO_6) gb159 (Nat.le_of_eq hg.symm)) hb)
           have n1_ := mk_ (blk_below (kk_ BK140) hb)
           have n2_ := mk_ (blk_below (kk_ BK144) hb)
           have n3_ := mk_ (below_step (bs2_ HB GE140 GE144) hb)
           have n4_ := mk_ (hbox)
           have n5_ := mk_ (bz_ hg (bs2_ HB GE140 GE144))
           have n6_ := mk_ (bz_ hg (bs2_ HB GE140 GE144))
           have n7_ := mk_ (bl_ hg (kk_ BK140))
           have n8_ := mk_ (bg_ hg (kk_ BK140))
           have n9_ := mk_ (bl_ hg (kk_ BK144))
           have n10_ := mk_ (bg_ hg (kk_ BK144))
           clear HO_6
           clear BK140
           clear BK144
           clear HB
           have HO_6 := n0_
           have BK140 := n1_
           have BK144 := n2_
           have HB := n3_
           have BK159 := n4_
           have GW159 := n5_
           have GE159 := n6_
           have NB140_159 := n7_
           have NB159_140 := n8_
           have NB144_159 := n9_
           have NB159_144 := n10_
           clear n0_ n1_ n2_ n3_ n4_ n5_ n6_ n7_ n8_ n9_ n10_
           clear hb hbox hg
           refine hK.out _ _ ⟨(blk_cell BK144.out 0).trans rfl, (blk_cell BK144.out 1).trans rfl, (blk_cell BK144.out 2).trans rfl, (blk_cell BK144.out 3).trans rfl, (blk_cell BK144.out 4).trans rfl, (blk_cell BK140.out 0).trans rfl, (blk_cell BK140.out 1).trans rfl⟩ (fun hHeld => ?_)
           clear hK K
           refine norm_ (a' := ?_) ?_ ?_
           rotate_left
           ·show Act.put _ (some 9) _ = _
            simp only [Act.put, sI_, s0_, sS_, i64_w, i32_w]
            rfl
           exact norm_ (by simp only [putAll, Act.put, sI_, s0_, sS_]) (hCont (gb159) _ ⟨hHeld, (rr_ HO_6), (kk_ BK140), (kk_ BK144), (kk_ BK159), GW159.out, GE159.out, NB140_159.out, NB159_140.out, NB144_159.out, NB159_144.out, (bs3_ HB GE140 GE144 GE159)⟩)
          ·skip
           refine box_step ?hg (N := 9) ?hd (cs := #[.int .i64 0, .int .i64 0, .int .i64 0, .int .i64 0, .int .i64 0]) (t := 51) ?hr ?_; (case hd => rfl); (case hg => rfl); (case hr => first | (go_simp; done) | (go_simp; rfl))
           intro gb159 hg w59 hbox hb
           have n0_ := mk_ (Kd.R_below (Kd.R_elderB (rr_ HO_6) gb159 (Nat.le_of_eq hg.symm)) hb)
           have n1_ := mk_ (blk_below (kk_ BK140) hb)
           have n2_ := mk_ (blk_below (kk_ BK144) hb)
           have n3_ := mk_ (below_step (bs2_ HB GE140 GE144) hb)
           have n4_ := mk_ (hbox)
           have n5_ := mk_ (bz_ hg (bs2_ HB GE140 GE144))
           have n6_ := mk_ (bz_ hg (bs2_ HB GE140 GE144))
           have n7_ := mk_ (bl_ hg (kk_ BK140))
           have n8_ := mk_ (bg_ hg (kk_ BK140))
           have n9_ := mk_ (bl_ hg (kk_ BK144))
           have n10_ := mk_ (bg_ hg (kk_ BK144))
           clear HO_6
           clear BK140
           clear BK144
           clear HB
           have HO_6 := n0_
           have BK140 := n1_
           have BK144 := n2_
           have HB := n3_
           have BK159 := n4_
           have GW159 := n5_
           have GE159 := n6_
           have NB140_159 := n7_
           have NB159_140 := n8_
           have NB144_159 := n9_
           have NB159_144 := n10_
           clear n0_ n1_ n2_ n3_ n4_ n5_ n6_ n7_ n8_ n9_ n10_
           clear hb hbox hg
           refine hK.out _ _ ⟨(blk_cell BK144.out 0).trans rfl, (blk_cell BK144.out 1).trans rfl, (blk_cell BK144.out 2).trans rfl, (blk_cell BK144.out 3).trans rfl, (blk_cell BK144.out 4).trans rfl, (blk_cell BK140.out 0).trans rfl, (blk_cell BK140.out 1).trans rfl⟩ (fun hHeld => ?_)
           clear hK K
           refine norm_ (a' := ?_) ?_ ?_
           rotate_left
           ·show Act.put _ (some 9) _ = _
            simp only [Act.put, sI_, s0_, sS_, i64_w, i32_w]
            rfl
           refine one_ (i := 27) (N := some 72) (w_ 31 805306367) rfl rfl (one_of HT_.out (by kernel_rfl)) (by decide) (fun K hK => ?_)
           refine goes_ Try.func35 (by kernel_rfl) rfl #[.int .i64 (wrap64 (((rd_T51 l0 x20_2).f2.f0) * a1_0)), .int .i64 (wrap64 (((rd_T51 l0 x20_2).f2.f1) * a1_1))] (by rfl) rfl rfl (by (try simp only [List.map_toArray, List.map_cons, List.map_nil]); first | done | rfl | (simp only [List.length_drop, List.length_take]; rfl)) ?_
           with_reducible refine (piecewise_lowest.calls kj15 (wrap64 (((rd_T51 l0 x20_2).f2.f0) * a1_0)) (wrap64 (((rd_T51 l0 x20_2).f2.f1) * a1_1)) t157 t158 _ A37.out).mono ?_
           rintro e w60 ⟨rfl, hb⟩
           refine ⟨_, rfl, ?_⟩
           have n0_ := mk_ (Kd.R_below (rr_ HO_6) hb)
           have n1_ := mk_ (blk_below (kk_ BK140) hb)
           have n2_ := mk_ (blk_below (kk_ BK144) hb)
           have n3_ := mk_ (blk_below (kk_ BK159) hb)
           have n4_ := mk_ (below_step (bs3_ HB GE140 GE144 GE159) hb)
           clear HO_6
           clear BK140
           clear BK144
           clear BK159
           clear HB
           have HO_6 := n0_
           have BK140 := n1_
           have BK144 := n2_
           have BK159 := n3_
           have HB := n4_
           clear n0_ n1_ n2_ n3_ n4_
           (try clear hb)
           (try clear hb2)
           (try clear hk)
           (try clear hi)
           refine hK.out _ _ ⟨(blk_cell BK144.out 0).trans rfl, (blk_cell BK144.out 1).trans rfl, (blk_cell BK144.out 2).trans rfl, (blk_cell BK144.out 3).trans rfl, (blk_cell BK144.out 4).trans rfl, (blk_cell BK140.out 0).trans rfl, (blk_cell BK140.out 1).trans rfl⟩ (fun hHeld => ?_)
           clear hK K
           refine norm_ (a' := ?_) ?_ ?_
           rotate_left
           ·show Act.put _ (some 72) _ = _
            simp only [Act.put, sI_, s0_, sS_, i64_w, i32_w]
            rfl
           refine pu_ 28 73 (w_ 31 1073741823) rfl HT_ ?_
           exact norm_ (by simp only [putAll, Act.put, sI_, s0_, sS_]) (hCont (gb159) _ ⟨hHeld, (rr_ HO_6), (kk_ BK140), (kk_ BK144), (kk_ BK159), GW159.out, GE159.out, NB140_159.out, NB159_140.out, NB144_159.out, NB159_144.out, (bs3_ HB GE140 GE144 GE159)⟩)
         ·skip
          refine box_step ?hg (N := 9) ?hd (cs := #[.int .i64 0, .int .i64 0, .int .i64 0, .int .i64 0, .int .i64 0]) (t := 51) ?hr ?_; (case hd => rfl); (case hg => rfl); (case hr => first | (go_simp; done) | (go_simp; rfl))
          intro gb159 hg w58 hbox hb
          have n0_ := mk_ (Kd.R_below (Kd.R_elderB (rr_ HO_6) gb159 (Nat.le_of_eq hg.symm)) hb)
          have n1_ := mk_ (blk_below (kk_ BK140) hb)
          have n2_ := mk_ (blk_below (kk_ BK144) hb)
          have n3_ := mk_ (below_step (bs2_ HB GE140 GE144) hb)
          have n4_ := mk_ (hbox)
          have n5_ := mk_ (bz_ hg (bs2_ HB GE140 GE144))
          have n6_ := mk_ (bz_ hg (bs2_ HB GE140 GE144))
          have n7_ := mk_ (bl_ hg (kk_ BK140))
          have n8_ := mk_ (bg_ hg (kk_ BK140))
          have n9_ := mk_ (bl_ hg (kk_ BK144))
          have n10_ := mk_ (bg_ hg (kk_ BK144))
          clear HO_6
          clear BK140
          clear BK144
          clear HB
          have HO_6 := n0_
          have BK140 := n1_
          have BK144 := n2_
          have HB := n3_
          have BK159 := n4_
          have GW159 := n5_
          have GE159 := n6_
          have NB140_159 := n7_
          have NB159_140 := n8_
          have NB144_159 := n9_
          have NB159_144 := n10_
          clear n0_ n1_ n2_ n3_ n4_ n5_ n6_ n7_ n8_ n9_ n10_
          clear hb hbox hg
          refine hK.out _ _ ⟨(blk_cell BK144.out 0).trans rfl, (blk_cell BK144.out 1).trans rfl, (blk_cell BK144.out 2).trans rfl, (blk_cell BK144.out 3).trans rfl, (blk_cell BK144.out 4).trans rfl, (blk_cell BK140.out 0).trans rfl, (blk_cell BK140.out 1).trans rfl⟩ (fun hHeld => ?_)
          clear hK K
          refine norm_ (a' := ?_) ?_ ?_
          rotate_left
          ·show Act.put _ (some 9) _ = _
           simp only [Act.put, sI_, s0_, sS_, i64_w, i32_w]
           rfl
          refine one_ (i := 14) (N := some 59) (w_ 31 671088639) rfl rfl (one_of HT_.out (by kernel_rfl)) (by decide) (fun K hK => ?_)
          refine goes_ Try.func35 (by kernel_rfl) rfl #[.int .i64 (wrap64 (((rd_T51 l0 x20_2).f1.f0) * a1_0)), .int .i64 (wrap64 (((rd_T51 l0 x20_2).f1.f1) * a1_1))] (by rfl) rfl rfl (by (try simp only [List.map_toArray, List.map_cons, List.map_nil]); first | done | rfl | (simp only [List.length_drop, List.length_take]; rfl)) ?_
          with_reducible refine (piecewise_lowest.calls kj15 (wrap64 (((rd_T51 l0 x20_2).f1.f0) * a1_0)) (wrap64 (((rd_T51 l0 x20_2).f1.f1) * a1_1)) t155 t156 _ A36.out).mono ?_
          rintro e w59 ⟨rfl, hb⟩
          refine ⟨_, rfl, ?_⟩
          have n0_ := mk_ (Kd.R_below (rr_ HO_6) hb)
          have n1_ := mk_ (blk_below (kk_ BK140) hb)
          have n2_ := mk_ (blk_below (kk_ BK144) hb)
          have n3_ := mk_ (blk_below (kk_ BK159) hb)
          have n4_ := mk_ (below_step (bs3_ HB GE140 GE144 GE159) hb)
          clear HO_6
          clear BK140
          clear BK144
          clear BK159
          clear HB
          have HO_6 := n0_
          have BK140 := n1_
          have BK144 := n2_
          have BK159 := n3_
          have HB := n4_
          clear n0_ n1_ n2_ n3_ n4_
          (try clear hb)
          (try clear hb2)
          (try clear hk)
          (try clear hi)
          refine hK.out _ _ ⟨(blk_cell BK144.out 0).trans rfl, (blk_cell BK144.out 1).trans rfl, (blk_cell BK144.out 2).trans rfl, (blk_cell BK144.out 3).trans rfl, (blk_cell BK144.out 4).trans rfl, (blk_cell BK140.out 0).trans rfl, (blk_cell BK140.out 1).trans rfl⟩ (fun hHeld => ?_)
          clear hK K
          refine norm_ (a' := ?_) ?_ ?_
          rotate_left
          ·show Act.put _ (some 59) _ = _
           simp only [Act.put, sI_, s0_, sS_, i64_w, i32_w]
           rfl
          refine one_ (i := 27) (N := some 72) (w_ 31 805306367) rfl rfl (one_of HT_.out (by kernel_rfl)) (by decide) (fun K hK => ?_)
          refine goes_ Try.func35 (by kernel_rfl) rfl #[.int .i64 (wrap64 (((rd_T51 l0 x20_2).f2.f0) * a1_0)), .int .i64 (wrap64 (((rd_T51 l0 x20_2).f2.f1) * a1_1))] (by rfl) rfl rfl (by (try simp only [List.map_toArray, List.map_cons, List.map_nil]); first | done | rfl | (simp only [List.length_drop, List.length_take]; rfl)) ?_
          with_reducible refine (piecewise_lowest.calls kj15 (wrap64 (((rd_T51 l0 x20_2).f2.f0) * a1_0)) (wrap64 (((rd_T51 l0 x20_2).f2.f1) * a1_1)) t157 t158 _ A37.out).mono ?_
          rintro e w60 ⟨rfl, hb⟩
          refine ⟨_, rfl, ?_⟩
          have n0_ := mk_ (Kd.R_below (rr_ HO_6) hb)
          have n1_ := mk_ (blk_below (kk_ BK140) hb)
          have n2_ := mk_ (blk_below (kk_ BK144) hb)
          have n3_ := mk_ (blk_below (kk_ BK159) hb)
          have n4_ := mk_ (below_step (bs3_ HB GE140 GE144 GE159) hb)
          clear HO_6
          clear BK140
          clear BK144
          clear BK159
          clear HB
          have HO_6 := n0_
          have BK140 := n1_
          have BK144 := n2_
          have BK159 := n3_
          have HB := n4_
          clear n0_ n1_ n2_ n3_ n4_
          (try clear hb)
          (try clear hb2)
          (try clear hk)
          (try clear hi)
          refine hK.out _ _ ⟨(blk_cell BK144.out 0).trans rfl, (blk_cell BK144.out 1).trans rfl, (blk_cell BK144.out 2).trans rfl, (blk_cell BK144.out 3).trans rfl, (blk_cell BK144.out 4).trans rfl, (blk_cell BK140.out 0).trans rfl, (blk_cell BK140.out 1).trans rfl⟩ (fun hHeld => ?_)
          clear hK K
          refine norm_ (a' := ?_) ?_ ?_
          rotate_left
          ·show Act.put _ (some 72) _ = _
           simp only [Act.put, sI_, s0_, sS_, i64_w, i32_w]
           rfl
          refine pu_ 28 73 (w_ 31 1073741823) rfl HT_ ?_
          exact norm_ (by simp only [putAll, Act.put, sI_, s0_, sS_]) (hCont (gb159) _ ⟨hHeld, (rr_ HO_6), (kk_ BK140), (kk_ BK144), (kk_ BK159), GW159.out, GE159.out, NB140_159.out, NB159_140.out, NB144_159.out, NB159_144.out, (bs3_ HB GE140 GE144 GE159)⟩)
        rintro gb159 w61 ⟨hS_, h0_, h1_, h2_, h3_, h4_, h5_, h6_, h7_, h8_, h9_, h10_⟩
        have n0_ : Aside0 (Kd.R k51 51 w61 w.heap.size (fun k_ => k_ ≠ gb144 ∧ k_ ≠ gb159) u6 x6_2) := ⟨h0_⟩
        have n1_ : Aside0 (w61.heap[gb140]? = some (.cells #[.int .i64 a1_0, .int .i64 a1_1] 24 (0, 0))) := ⟨h1_⟩
        have n2_ : Aside0 (w61.heap[gb144]? = some (.cells #[.int .i64 ((rd_T51 l0 x20_2).f0), .int .i64 ((rd_T51 l0 x20_2).f1.f0), .int .i64 ((rd_T51 l0 x20_2).f1.f1), .int .i64 ((rd_T51 l0 x20_2).f2.f0), .int .i64 ((rd_T51 l0 x20_2).f2.f1)] 51 (0, 0))) := ⟨h2_⟩
        have n3_ : Aside0 (w61.heap[gb159]? = some (.cells #[.int .i64 0, .int .i64 0, .int .i64 0, .int .i64 0, .int .i64 0] 51 (0, 0))) := ⟨h3_⟩
        have n4_ : Aside0 (w.heap.size ≤ gb159) := ⟨h4_⟩
        have n5_ : Aside0 (w.heap.size ≤ gb159) := ⟨h5_⟩
        have n6_ : Aside0 (gb140 ≠ gb159) := ⟨h6_⟩
        have n7_ : Aside0 (gb159 ≠ gb140) := ⟨h7_⟩
        have n8_ : Aside0 (gb144 ≠ gb159) := ⟨h8_⟩
        have n9_ : Aside0 (gb159 ≠ gb144) := ⟨h9_⟩
        have n10_ : Aside0 (Below w.heap.size w w61) := ⟨h10_⟩
        clear HO_6
        clear BK140
        clear BK144
        clear HB
        clear h0_ h1_ h2_ h3_ h4_ h5_ h6_ h7_ h8_ h9_ h10_
        have HO_6 := n0_
        have BK140 := n1_
        have BK144 := n2_
        have BK159 := n3_
        have GW159 := n4_
        have GE159 := n5_
        have NB140_159 := n6_
        have NB159_140 := n7_
        have NB144_159 := n8_
        have NB159_144 := n9_
        have HB := n10_
        clear n0_ n1_ n2_ n3_ n4_ n5_ n6_ n7_ n8_ n9_ n10_
        have hHeld : w61.cell? ⟨gb144, 0, none⟩ = some (.int .i64 ((rd_T51 l0 x20_2).f0)) ∧ w61.cell? ⟨gb144, 1, none⟩ = some (.int .i64 ((rd_T51 l0 x20_2).f1.f0)) ∧ w61.cell? ⟨gb144, 2, none⟩ = some (.int .i64 ((rd_T51 l0 x20_2).f1.f1)) ∧ w61.cell? ⟨gb144, 3, none⟩ = some (.int .i64 ((rd_T51 l0 x20_2).f2.f0)) ∧ w61.cell? ⟨gb144, 4, none⟩ = some (.int .i64 ((rd_T51 l0 x20_2).f2.f1)) ∧ w61.cell? ⟨gb140, 0, none⟩ = some (.int .i64 a1_0) ∧ w61.cell? ⟨gb140, 1, none⟩ = some (.int .i64 a1_1) := hS_
        refine norm_ (a' := ?_) ?_ ?_
        rotate_left
        ·simp only [putAll, Act.put, sI_, s0_, sS_]
         rfl
        refine one_ (i := 30) (N := none) (w_ 31 2147483647) rfl rfl (one_of HT_.out (by kernel_rfl)) (by decide) (fun K hK => ?_)
        have hs62 : w61.cell? ⟨gb159, 0, none⟩ = some (.int .i64 0) := (blk_cell BK159.out 0).trans rfl
        have hfs62 := blk_frozen BK159.out 0
        have hns62_0 := NB140_159.out
        have hns62_1 := NB144_159.out
        have hms62_0 := NB159_140.out
        have hms62_1 := NB159_144.out
        have hs63 : w61.cell? ⟨gb159, 1, none⟩ = some (.int .i64 0) := (blk_cell BK159.out 1).trans rfl
        have hfs63 := blk_frozen BK159.out 1
        have hns63_0 := NB140_159.out
        have hns63_1 := NB144_159.out
        have hms63_0 := NB159_140.out
        have hms63_1 := NB159_144.out
        have hs64 : w61.cell? ⟨gb159, 2, none⟩ = some (.int .i64 0) := (blk_cell BK159.out 2).trans rfl
        have hfs64 := blk_frozen BK159.out 2
        have hns64_0 := NB140_159.out
        have hns64_1 := NB144_159.out
        have hms64_0 := NB159_140.out
        have hms64_1 := NB159_144.out
        have hs65 : w61.cell? ⟨gb159, 3, none⟩ = some (.int .i64 0) := (blk_cell BK159.out 3).trans rfl
        have hfs65 := blk_frozen BK159.out 3
        have hns65_0 := NB140_159.out
        have hns65_1 := NB144_159.out
        have hms65_0 := NB159_140.out
        have hms65_1 := NB159_144.out
        have hs66 : w61.cell? ⟨gb159, 4, none⟩ = some (.int .i64 0) := (blk_cell BK159.out 4).trans rfl
        have hfs66 := blk_frozen BK159.out 4
        have hns66_0 := NB140_159.out
        have hns66_1 := NB144_159.out
        have hms66_0 := NB159_140.out
        have hms66_1 := NB159_144.out
        refine skip_ (w1 := ?_) (by rfl) rfl ?_ ?_
        rotate_left
        ·go_simp
         rfl
        refine hK.out _ _ ⟨((cell_far (p := ⟨gb159, _, none⟩) NB144_159.out _).trans (((cell_far (p := ⟨gb159, _, none⟩) NB144_159.out _).trans (((cell_far (p := ⟨gb159, _, none⟩) NB144_159.out _).trans (((cell_far (p := ⟨gb159, _, none⟩) NB144_159.out _).trans (((cell_far (p := ⟨gb159, _, none⟩) NB144_159.out _).trans (hHeld.1)))))))))), ((cell_far (p := ⟨gb159, _, none⟩) NB144_159.out _).trans (((cell_far (p := ⟨gb159, _, none⟩) NB144_159.out _).trans (((cell_far (p := ⟨gb159, _, none⟩) NB144_159.out _).trans (((cell_far (p := ⟨gb159, _, none⟩) NB144_159.out _).trans (((cell_far (p := ⟨gb159, _, none⟩) NB144_159.out _).trans (hHeld.2.1)))))))))), ((cell_far (p := ⟨gb159, _, none⟩) NB144_159.out _).trans (((cell_far (p := ⟨gb159, _, none⟩) NB144_159.out _).trans (((cell_far (p := ⟨gb159, _, none⟩) NB144_159.out _).trans (((cell_far (p := ⟨gb159, _, none⟩) NB144_159.out _).trans (((cell_far (p := ⟨gb159, _, none⟩) NB144_159.out _).trans (hHeld.2.2.1)))))))))), ((cell_far (p := ⟨gb159, _, none⟩) NB144_159.out _).trans (((cell_far (p := ⟨gb159, _, none⟩) NB144_159.out _).trans (((cell_far (p := ⟨gb159, _, none⟩) NB144_159.out _).trans (((cell_far (p := ⟨gb159, _, none⟩) NB144_159.out _).trans (((cell_far (p := ⟨gb159, _, none⟩) NB144_159.out _).trans (hHeld.2.2.2.1)))))))))), ((cell_far (p := ⟨gb159, _, none⟩) NB144_159.out _).trans (((cell_far (p := ⟨gb159, _, none⟩) NB144_159.out _).trans (((cell_far (p := ⟨gb159, _, none⟩) NB144_159.out _).trans (((cell_far (p := ⟨gb159, _, none⟩) NB144_159.out _).trans (((cell_far (p := ⟨gb159, _, none⟩) NB144_159.out _).trans (hHeld.2.2.2.2.1)))))))))), ((cell_far (p := ⟨gb159, _, none⟩) NB140_159.out _).trans (((cell_far (p := ⟨gb159, _, none⟩) NB140_159.out _).trans (((cell_far (p := ⟨gb159, _, none⟩) NB140_159.out _).trans (((cell_far (p := ⟨gb159, _, none⟩) NB140_159.out _).trans (((cell_far (p := ⟨gb159, _, none⟩) NB140_159.out _).trans (hHeld.2.2.2.2.2.1)))))))))), ((cell_far (p := ⟨gb159, _, none⟩) NB140_159.out _).trans (((cell_far (p := ⟨gb159, _, none⟩) NB140_159.out _).trans (((cell_far (p := ⟨gb159, _, none⟩) NB140_159.out _).trans (((cell_far (p := ⟨gb159, _, none⟩) NB140_159.out _).trans (((cell_far (p := ⟨gb159, _, none⟩) NB140_159.out _).trans (hHeld.2.2.2.2.2.2))))))))))⟩ (fun hHeld => ?_)
        clear hK K
        refine done_ (done_of HT_.out (by kernel_rfl)) ?_
        have hnb67 := NB159_140.out
        have hnc67 := NB140_159.out
        have hnb68 := NB159_144.out
        have hnc68 := NB144_159.out
        have hcz69_0 := bc0_ BK159.out
        have hcz69_1 := bc1_ BK159.out
        have hcz69_2 := bc2_ BK159.out
        have hcz69_3 : w61.cell? ⟨gb159, 3, none⟩ = some (.int .i64 0) := (blk_cell BK159.out 3).trans rfl
        have hcz69_4 : w61.cell? ⟨gb159, 4, none⟩ = some (.int .i64 0) := (blk_cell BK159.out 4).trans rfl
        have hfz69_0 := blk_frozen BK159.out 0
        have hfz69_1 := blk_frozen BK159.out 1
        have hfz69_2 := blk_frozen BK159.out 2
        have hfz69_3 := blk_frozen BK159.out 3
        have hfz69_4 := blk_frozen BK159.out 4
        try go_wp2_with (first | ((with_reducible refine gate_callee (f := 38) rfl ?_); refine gl_ (some 75) Try.func38 #[.agg #[.int .i64 ((rd_T51 l0 x20_2).f0), .int .i64 t155, .int .i64 t156, .int .i64 t157, .int .i64 t158]] ?_; (with_reducible refine (piecewise_numbers.calls ((rd_T51 l0 x20_2).f0) t155 t156 t157 t158 false _ A38.out).mono ?_); rintro e w70 ⟨rfl, hb⟩; refine ⟨_, rfl, ?_⟩; have n0_ := mk_ (Kd.R_below (by (with_reducible repeat (first | apply Kd.R_alloc | apply Kd.R_drewN | apply Kd.R_drew)); exact (Kd.R_mono (Kd.R_far (p := ⟨gb159, 4, none⟩) (Kd.R_far (p := ⟨gb159, 3, none⟩) (Kd.R_far (p := ⟨gb159, 2, none⟩) (Kd.R_far (p := ⟨gb159, 1, none⟩) (Kd.R_far (p := ⟨gb159, 0, none⟩) (Kd.R_mono HO_6.out (fun k_ hk => (⟨hk, hk.2⟩ : _ ∧ k_ ≠ gb159))) (fun _ hk => hk.2) (.int .i64 ((rd_T51 l0 x20_2).f0))) (fun _ hk => hk.2) (.int .i64 t155)) (fun _ hk => hk.2) (.int .i64 t156)) (fun _ hk => hk.2) (.int .i64 t157)) (fun _ hk => hk.2) (.int .i64 t158)) (fun _ h_ => h_.1))) hb); have n1_ := mk_ (blk_below (g := gb140) (o := .cells #[.int .i64 a1_0, .int .i64 a1_1] 24 (0, 0)) (by (with_reducible repeat (first | refine blk_drewN ?_ _ | refine blk_drew ?_ | refine blk_alloc ?_ _)); refine blk_far ?_ NB140_159.out _; (with_reducible repeat (first | refine blk_drewN ?_ _ | refine blk_drew ?_ | refine blk_alloc ?_ _)); refine blk_far ?_ NB140_159.out _; (with_reducible repeat (first | refine blk_drewN ?_ _ | refine blk_drew ?_ | refine blk_alloc ?_ _)); refine blk_far ?_ NB140_159.out _; (with_reducible repeat (first | refine blk_drewN ?_ _ | refine blk_drew ?_ | refine blk_alloc ?_ _)); refine blk_far ?_ NB140_159.out _; (with_reducible repeat (first | refine blk_drewN ?_ _ | refine blk_drew ?_ | refine blk_alloc ?_ _)); refine blk_far ?_ NB140_159.out _; (with_reducible repeat (first | refine blk_drewN ?_ _ | refine blk_drew ?_ | refine blk_alloc ?_ _)); exact BK140.out) hb); have n2_ := mk_ (blk_below (g := gb144) (o := .cells #[.int .i64 ((rd_T51 l0 x20_2).f0), .int .i64 ((rd_T51 l0 x20_2).f1.f0), .int .i64 ((rd_T51 l0 x20_2).f1.f1), .int .i64 ((rd_T51 l0 x20_2).f2.f0), .int .i64 ((rd_T51 l0 x20_2).f2.f1)] 51 (0, 0)) (by (with_reducible repeat (first | refine blk_drewN ?_ _ | refine blk_drew ?_ | refine blk_alloc ?_ _)); refine blk_far ?_ NB144_159.out _; (with_reducible repeat (first | refine blk_drewN ?_ _ | refine blk_drew ?_ | refine blk_alloc ?_ _)); refine blk_far ?_ NB144_159.out _; (with_reducible repeat (first | refine blk_drewN ?_ _ | refine blk_drew ?_ | refine blk_alloc ?_ _)); refine blk_far ?_ NB144_159.out _; (with_reducible repeat (first | refine blk_drewN ?_ _ | refine blk_drew ?_ | refine blk_alloc ?_ _)); refine blk_far ?_ NB144_159.out _; (with_reducible repeat (first | refine blk_drewN ?_ _ | refine blk_drew ?_ | refine blk_alloc ?_ _)); refine blk_far ?_ NB144_159.out _; (with_reducible repeat (first | refine blk_drewN ?_ _ | refine blk_drew ?_ | refine blk_alloc ?_ _)); exact BK144.out) hb); have n3_ := mk_ (blk_below (g := gb159) (o := .cells #[.int .i64 ((rd_T51 l0 x20_2).f0), .int .i64 t155, .int .i64 t156, .int .i64 t157, .int .i64 t158] 51 (0, 0)) (by (with_reducible repeat (first | refine blk_drewN ?_ _ | refine blk_drew ?_ | refine blk_alloc ?_ _)); refine blk_put (cs := #[.int .i64 ((rd_T51 l0 x20_2).f0), .int .i64 t155, .int .i64 t156, .int .i64 t157, .int .i64 0]) ?_ 4 _ rfl; (with_reducible repeat (first | refine blk_drewN ?_ _ | refine blk_drew ?_ | refine blk_alloc ?_ _)); refine blk_put (cs := #[.int .i64 ((rd_T51 l0 x20_2).f0), .int .i64 t155, .int .i64 t156, .int .i64 0, .int .i64 0]) ?_ 3 _ rfl; (with_reducible repeat (first | refine blk_drewN ?_ _ | refine blk_drew ?_ | refine blk_alloc ?_ _)); refine blk_put (cs := #[.int .i64 ((rd_T51 l0 x20_2).f0), .int .i64 t155, .int .i64 0, .int .i64 0, .int .i64 0]) ?_ 2 _ rfl; (with_reducible repeat (first | refine blk_drewN ?_ _ | refine blk_drew ?_ | refine blk_alloc ?_ _)); refine blk_put (cs := #[.int .i64 ((rd_T51 l0 x20_2).f0), .int .i64 0, .int .i64 0, .int .i64 0, .int .i64 0]) ?_ 1 _ rfl; (with_reducible repeat (first | refine blk_drewN ?_ _ | refine blk_drew ?_ | refine blk_alloc ?_ _)); refine blk_put (cs := #[.int .i64 0, .int .i64 0, .int .i64 0, .int .i64 0, .int .i64 0]) ?_ 0 _ rfl; (with_reducible repeat (first | refine blk_drewN ?_ _ | refine blk_drew ?_ | refine blk_alloc ?_ _)); exact BK159.out) hb); have n4_ := mk_ (below_step (bs3_ HB GE140 GE144 GE159) hb); clear HO_6 BK140 BK144 BK159 HB; revert n0_ n1_ n2_ n3_ n4_; intro HO_6 BK140 BK144 BK159 HB; (try clear hb); (try clear hb2); (try clear hk); (try clear hi)))
        go_ret2
        exact ⟨_, ew_, by first | exact Kd.R_nil _ _ _ _ _ | exact Kd.N_nil _ _ _ _ _ | exact Kd.V_nil _ _ _ _ _ | exact Kd.Q_nil _ _ _ _ _ | exact Kd.S_nil _ _ _ _ _, bs3_ HB GE140 GE144 GE159⟩
       subst c39
       have H1 : (if x6_2.length < 3518437208883 then (piecewise_Scale.l0 kj15 l0 (x6_2 ++ [(⟨((rd_T51 l0 x20_2).f0), (⟨t155, t156⟩ : S24), (⟨t157, t158⟩ : S24)⟩ : S51)]) l0 (l0.length : Int) (wrap64 (x20_2 + 1)) a1_0 a1_1) else (none)) = some (r1, r2) := by rw [if_pos rfl] at H; exact H
       clear H
       have H := H1
       clear H1
       by_cases c40 : x6_2.length < 3518437208883
       rotate_left
       ·rw [if_neg c40] at H
        exact absurd H (by simp)
       rw [if_pos c40] at H
       have LMc40 := mk_ c40
       clear c40
       obtain ⟨y161, hy161⟩ : ∃ y_ : List (S51), y_ = (x6_2 ++ [(⟨((rd_T51 l0 x20_2).f0), (⟨t155, t156⟩ : S24), (⟨t157, t158⟩ : S24)⟩ : S51)]) := ⟨_, rfl⟩
       replace H : (piecewise_Scale.l0 kj15 l0 y161 l0 (l0.length : Int) (wrap64 (x20_2 + 1)) a1_0 a1_1) = some (r1, r2) := by first | (rw [hy161]; with_reducible exact H) | (have H2_ := (Option.bind_some _ _).symm.trans H; rw [hy161]; with_reducible exact H2_) | (have H2_ := (Option.bind_some _ _).symm.trans H; with_reducible exact H2_) | with_reducible exact H | (rw [hy161]; exact H) | exact H
       have Ny161 := mk_ hy161
       clear hy161
       have H' := mk_ H
       clear H
       try go_wp2
       have n0_ := mk_ (Kd.R_drew HO_6.out)
       have n1_ := mk_ (blk_drew BK140.out)
       have n2_ := mk_ (blk_drew BK144.out)
       have n3_ := mk_ (below_drew1 HB.out)
       clear HO_6
       clear BK140
       clear BK144
       clear HB
       have HO_6 := n0_
       have BK140 := n1_
       have BK144 := n2_
       have HB := n3_
       clear n0_ n1_ n2_ n3_
       refine start_ (n := 31) (S := fun w' => w'.cell? ⟨gb144, 0, none⟩ = some (.int .i64 ((rd_T51 l0 x20_2).f0)) ∧ w'.cell? ⟨gb144, 1, none⟩ = some (.int .i64 ((rd_T51 l0 x20_2).f1.f0)) ∧ w'.cell? ⟨gb144, 2, none⟩ = some (.int .i64 ((rd_T51 l0 x20_2).f1.f1)) ∧ w'.cell? ⟨gb144, 3, none⟩ = some (.int .i64 ((rd_T51 l0 x20_2).f2.f0)) ∧ w'.cell? ⟨gb144, 4, none⟩ = some (.int .i64 ((rd_T51 l0 x20_2).f2.f1)) ∧ w'.cell? ⟨gb140, 0, none⟩ = some (.int .i64 a1_0) ∧ w'.cell? ⟨gb140, 1, none⟩ = some (.int .i64 a1_1)) (ds := []) #[n_, n_, n_, n_, n_, n_, n_, n_, n_, n_, n_, n_, n_, n_, n_, n_, n_, n_, n_, n_, n_, n_, n_, n_, n_, n_, n_, n_, n_, n_, n_] (by kernel_rfl) rfl rfl ⟨(blk_cell BK144.out 0).trans rfl, (blk_cell BK144.out 1).trans rfl, (blk_cell BK144.out 2).trans rfl, (blk_cell BK144.out 3).trans rfl, (blk_cell BK144.out 4).trans rfl, (blk_cell BK140.out 0).trans rfl, (blk_cell BK140.out 1).trans rfl⟩ (fun hHeld => ?_); refine with_tabW piecewise_Scale.tab8 piecewise_Scale.bits8 (fun HT_ HW_ => ?_)
       generalize wc.drew = w41 at HO_6 BK140 BK144 HB hHeld ⊢
       refine pu_ 0 45 (w_ 31 1) rfl HT_ ?_
       refine pu_ 2 47 (w_ 31 5) rfl HT_ ?_
       refine pu_ 3 48 (w_ 31 13) rfl HT_ ?_
       refine pu_ 5 50 (w_ 31 45) rfl HT_ ?_
       refine pu_ 8 53 (w_ 31 301) rfl HT_ ?_
       refine pu_ 9 54 (w_ 31 813) rfl HT_ ?_
       refine pu_ 11 56 (w_ 31 2861) rfl HT_ ?_
       refine pu_ 15 60 (w_ 31 35629) rfl HT_ ?_
       refine pu_ 16 61 (w_ 31 101165) rfl HT_ ?_
       refine pu_ 18 63 (w_ 31 363309) rfl HT_ ?_
       refine pu_ 21 66 (w_ 31 2460461) rfl HT_ ?_
       refine pu_ 22 67 (w_ 31 6654765) rfl HT_ ?_
       refine pu_ 24 69 (w_ 31 23431981) rfl HT_ ?_
       refine ta_ 1 46 (w_ 31 23431983) rfl HT_ HW_ hHeld (by rintro w' ⟨s0, s1, s2, s3, s4, s5, s6⟩; go_simp; with_reducible rfl) ?_
       refine ta_ 4 49 (w_ 31 23431999) rfl HT_ HW_ hHeld (by rintro w' ⟨s0, s1, s2, s3, s4, s5, s6⟩; go_simp; with_reducible rfl) ?_
       refine ta_ 6 51 (w_ 31 23432063) rfl HT_ HW_ hHeld (by rintro w' ⟨s0, s1, s2, s3, s4, s5, s6⟩; go_simp; with_reducible rfl) ?_
       refine pu_ 7 52 (w_ 31 23432191) rfl HT_ ?_
       refine ta_ 10 55 (w_ 31 23433215) rfl HT_ HW_ hHeld (by rintro w' ⟨s0, s1, s2, s3, s4, s5, s6⟩; go_simp; with_reducible rfl) ?_
       refine ta_ 12 57 (w_ 31 23437311) rfl HT_ HW_ hHeld (by rintro w' ⟨s0, s1, s2, s3, s4, s5, s6⟩; go_simp; with_reducible rfl) ?_
       refine pu_ 13 58 (w_ 31 23445503) rfl HT_ ?_
       refine ta_ 17 62 (w_ 31 23576575) rfl HT_ HW_ hHeld (by rintro w' ⟨s0, s1, s2, s3, s4, s5, s6⟩; go_simp; with_reducible rfl) ?_
       refine ta_ 19 64 (w_ 31 24100863) rfl HT_ HW_ hHeld (by rintro w' ⟨s0, s1, s2, s3, s4, s5, s6⟩; go_simp; with_reducible rfl) ?_
       refine pu_ 20 65 (w_ 31 25149439) rfl HT_ ?_
       refine ta_ 23 68 (w_ 31 33538047) rfl HT_ HW_ hHeld (by rintro w' ⟨s0, s1, s2, s3, s4, s5, s6⟩; go_simp; with_reducible rfl) ?_
       refine ta_ 25 70 (w_ 31 67092479) rfl HT_ HW_ hHeld (by rintro w' ⟨s0, s1, s2, s3, s4, s5, s6⟩; go_simp; with_reducible rfl) ?_
       refine pu_ 26 71 (w_ 31 134201343) rfl HT_ ?_
       refine join_ (σ := Nat) 1 #[y_, y_, y_, y_, y_, y_, y_, y_, y_, y_, y_, y_, y_, y_, y_, y_, y_, y_, y_, y_, y_, y_, y_, y_, y_, y_, y_, y_, y_, y_, n_] (fun s_ => [(59, .agg #[.int .i64 t155, .int .i64 t156]), (72, .agg #[.int .i64 t157, .int .i64 t158]), (9, .pointer (some ⟨s_, 0, none⟩)), (73, .agg #[.int .i64 ((rd_T51 l0 x20_2).f0), .int .i64 t155, .int .i64 t156, .int .i64 t157, .int .i64 t158])]) (fun s_ w' => (w'.cell? ⟨gb144, 0, none⟩ = some (.int .i64 ((rd_T51 l0 x20_2).f0)) ∧ w'.cell? ⟨gb144, 1, none⟩ = some (.int .i64 ((rd_T51 l0 x20_2).f1.f0)) ∧ w'.cell? ⟨gb144, 2, none⟩ = some (.int .i64 ((rd_T51 l0 x20_2).f1.f1)) ∧ w'.cell? ⟨gb144, 3, none⟩ = some (.int .i64 ((rd_T51 l0 x20_2).f2.f0)) ∧ w'.cell? ⟨gb144, 4, none⟩ = some (.int .i64 ((rd_T51 l0 x20_2).f2.f1)) ∧ w'.cell? ⟨gb140, 0, none⟩ = some (.int .i64 a1_0) ∧ w'.cell? ⟨gb140, 1, none⟩ = some (.int .i64 a1_1)) ∧ (Kd.R k51 51 w' w.heap.size (fun k_ => k_ ≠ gb144 ∧ k_ ≠ s_) u6 x6_2) ∧ (w'.heap[gb140]? = some (.cells #[.int .i64 a1_0, .int .i64 a1_1] 24 (0, 0))) ∧ (w'.heap[gb144]? = some (.cells #[.int .i64 ((rd_T51 l0 x20_2).f0), .int .i64 ((rd_T51 l0 x20_2).f1.f0), .int .i64 ((rd_T51 l0 x20_2).f1.f1), .int .i64 ((rd_T51 l0 x20_2).f2.f0), .int .i64 ((rd_T51 l0 x20_2).f2.f1)] 51 (0, 0))) ∧ (w'.heap[s_]? = some (.cells #[.int .i64 0, .int .i64 0, .int .i64 0, .int .i64 0, .int .i64 0] 51 (0, 0))) ∧ (w.heap.size ≤ s_) ∧ (w.heap.size ≤ s_) ∧ (gb140 ≠ s_) ∧ (s_ ≠ gb140) ∧ (gb144 ≠ s_) ∧ (s_ ≠ gb144) ∧ (Below w.heap.size w w')) ?_ ?_
       rotate_left
       ·intro hCont
        refine two_ (i := 14) (j := 29) (Ni := some 59) (Nj := some 9) #[y_, y_, y_, y_, y_, y_, y_, y_, y_, y_, y_, y_, y_, y_, y_, y_, y_, y_, y_, y_, y_, y_, y_, y_, y_, y_, y_, n_, n_, n_, n_] #[y_, y_, y_, y_, y_, y_, y_, y_, y_, y_, y_, y_, y_, y_, n_, y_, y_, y_, y_, y_, y_, y_, y_, y_, y_, y_, y_, n_, n_, y_, n_] rfl rfl rfl rfl (two_of HT_.out (by kernel_rfl)) (by decide) (by decide) (fun K hK => ?_) (fun K hK => ?_)
        ·skip
         refine goes_ Try.func35 (by kernel_rfl) rfl #[.int .i64 (wrap64 (((rd_T51 l0 x20_2).f1.f0) * a1_0)), .int .i64 (wrap64 (((rd_T51 l0 x20_2).f1.f1) * a1_1))] (by rfl) rfl rfl (by (try simp only [List.map_toArray, List.map_cons, List.map_nil]); first | done | rfl | (simp only [List.length_drop, List.length_take]; rfl)) ?_
         with_reducible refine (piecewise_lowest.calls kj15 (wrap64 (((rd_T51 l0 x20_2).f1.f0) * a1_0)) (wrap64 (((rd_T51 l0 x20_2).f1.f1) * a1_1)) t155 t156 _ A36.out).mono ?_
         rintro e w42 ⟨rfl, hb⟩
         refine ⟨_, rfl, ?_⟩
         have n0_ := mk_ (Kd.R_below (rr_ HO_6) hb)
         have n1_ := mk_ (blk_below (kk_ BK140) hb)
         have n2_ := mk_ (blk_below (kk_ BK144) hb)
         have n3_ := mk_ (below_step (bs2_ HB GE140 GE144) hb)
         clear HO_6
         clear BK140
         clear BK144
         clear HB
         have HO_6 := n0_
         have BK140 := n1_
         have BK144 := n2_
         have HB := n3_
         clear n0_ n1_ n2_ n3_
         (try clear hb)
         (try clear hb2)
         (try clear hk)
         (try clear hi)
         refine hK.out _ _ ⟨(blk_cell BK144.out 0).trans rfl, (blk_cell BK144.out 1).trans rfl, (blk_cell BK144.out 2).trans rfl, (blk_cell BK144.out 3).trans rfl, (blk_cell BK144.out 4).trans rfl, (blk_cell BK140.out 0).trans rfl, (blk_cell BK140.out 1).trans rfl⟩ (fun hHeld => ?_)
         clear hK K
         refine norm_ (a' := ?_) ?_ ?_
         rotate_left
         ·show Act.put _ (some 59) _ = _
          simp only [Act.put, sI_, s0_, sS_, i64_w, i32_w]
          rfl
         refine two_ (i := 27) (j := 29) (Ni := some 72) (Nj := some 9) #[y_, y_, y_, y_, y_, y_, y_, y_, y_, y_, y_, y_, y_, y_, y_, y_, y_, y_, y_, y_, y_, y_, y_, y_, y_, y_, y_, y_, n_, n_, n_] #[y_, y_, y_, y_, y_, y_, y_, y_, y_, y_, y_, y_, y_, y_, y_, y_, y_, y_, y_, y_, y_, y_, y_, y_, y_, y_, y_, n_, n_, y_, n_] rfl rfl rfl rfl (two_of HT_.out (by kernel_rfl)) (by decide) (by decide) (fun K hK => ?_) (fun K hK => ?_)
         ·skip
          refine goes_ Try.func35 (by kernel_rfl) rfl #[.int .i64 (wrap64 (((rd_T51 l0 x20_2).f2.f0) * a1_0)), .int .i64 (wrap64 (((rd_T51 l0 x20_2).f2.f1) * a1_1))] (by rfl) rfl rfl (by (try simp only [List.map_toArray, List.map_cons, List.map_nil]); first | done | rfl | (simp only [List.length_drop, List.length_take]; rfl)) ?_
          with_reducible refine (piecewise_lowest.calls kj15 (wrap64 (((rd_T51 l0 x20_2).f2.f0) * a1_0)) (wrap64 (((rd_T51 l0 x20_2).f2.f1) * a1_1)) t157 t158 _ A37.out).mono ?_
          rintro e w43 ⟨rfl, hb⟩
          refine ⟨_, rfl, ?_⟩
          have n0_ := mk_ (Kd.R_below (rr_ HO_6) hb)
          have n1_ := mk_ (blk_below (kk_ BK140) hb)
          have n2_ := mk_ (blk_below (kk_ BK144) hb)
          have n3_ := mk_ (below_step (bs2_ HB GE140 GE144) hb)
          clear HO_6
          clear BK140
          clear BK144
          clear HB
          have HO_6 := n0_
          have BK140 := n1_
          have BK144 := n2_
          have HB := n3_
          clear n0_ n1_ n2_ n3_
          (try clear hb)
          (try clear hb2)
          (try clear hk)
          (try clear hi)
          refine hK.out _ _ ⟨(blk_cell BK144.out 0).trans rfl, (blk_cell BK144.out 1).trans rfl, (blk_cell BK144.out 2).trans rfl, (blk_cell BK144.out 3).trans rfl, (blk_cell BK144.out 4).trans rfl, (blk_cell BK140.out 0).trans rfl, (blk_cell BK140.out 1).trans rfl⟩ (fun hHeld => ?_)
          clear hK K
          refine norm_ (a' := ?_) ?_ ?_
          rotate_left
          ·show Act.put _ (some 72) _ = _
           simp only [Act.put, sI_, s0_, sS_, i64_w, i32_w]
           rfl
          refine pu_ 28 73 (w_ 31 536870911) rfl HT_ ?_
          refine one_ (i := 29) (N := some 9) (w_ 31 1073741823) rfl rfl (one_of HT_.out (by kernel_rfl)) (by decide) (fun K hK => ?_)
          refine box_step ?hg (N := 9) ?hd (cs := #[.int .i64 0, .int .i64 0, .int .i64 0, .int .i64 0, .int .i64 0]) (t := 51) ?hr ?_; (case hd => rfl); (case hg => rfl); (case hr => first | (go_simp; done) | (go_simp; rfl))
          intro gb159 hg w44 hbox hb
          have n0_ := mk_ (Kd.R_below (Kd.R_elderB (rr_ HO_6) gb159 (Nat.le_of_eq hg.symm)) hb)
          have n1_ := mk_ (blk_below (kk_ BK140) hb)
          have n2_ := mk_ (blk_below (kk_ BK144) hb)
          have n3_ := mk_ (below_step (bs2_ HB GE140 GE144) hb)
          have n4_ := mk_ (hbox)
          have n5_ := mk_ (bz_ hg (bs2_ HB GE140 GE144))
          have n6_ := mk_ (bz_ hg (bs2_ HB GE140 GE144))
          have n7_ := mk_ (bl_ hg (kk_ BK140))
          have n8_ := mk_ (bg_ hg (kk_ BK140))
          have n9_ := mk_ (bl_ hg (kk_ BK144))
          have n10_ := mk_ (bg_ hg (kk_ BK144))
          clear HO_6
          clear BK140
          clear BK144
          clear HB
          have HO_6 := n0_
          have BK140 := n1_
          have BK144 := n2_
          have HB := n3_
          have BK159 := n4_
          have GW159 := n5_
          have GE159 := n6_
          have NB140_159 := n7_
          have NB159_140 := n8_
          have NB144_159 := n9_
          have NB159_144 := n10_
          clear n0_ n1_ n2_ n3_ n4_ n5_ n6_ n7_ n8_ n9_ n10_
          clear hb hbox hg
          refine hK.out _ _ ⟨(blk_cell BK144.out 0).trans rfl, (blk_cell BK144.out 1).trans rfl, (blk_cell BK144.out 2).trans rfl, (blk_cell BK144.out 3).trans rfl, (blk_cell BK144.out 4).trans rfl, (blk_cell BK140.out 0).trans rfl, (blk_cell BK140.out 1).trans rfl⟩ (fun hHeld => ?_)
          clear hK K
          refine norm_ (a' := ?_) ?_ ?_
          rotate_left
          ·show Act.put _ (some 9) _ = _
           simp only [Act.put, sI_, s0_, sS_, i64_w, i32_w]
           rfl
          exact norm_ (by simp only [putAll, Act.put, sI_, s0_, sS_]) (hCont (gb159) _ ⟨hHeld, (rr_ HO_6), (kk_ BK140), (kk_ BK144), (kk_ BK159), GW159.out, GE159.out, NB140_159.out, NB159_140.out, NB144_159.out, NB159_144.out, (bs3_ HB GE140 GE144 GE159)⟩)
         ·skip
          refine box_step ?hg (N := 9) ?hd (cs := #[.int .i64 0, .int .i64 0, .int .i64 0, .int .i64 0, .int .i64 0]) (t := 51) ?hr ?_; (case hd => rfl); (case hg => rfl); (case hr => first | (go_simp; done) | (go_simp; rfl))
          intro gb159 hg w43 hbox hb
          have n0_ := mk_ (Kd.R_below (Kd.R_elderB (rr_ HO_6) gb159 (Nat.le_of_eq hg.symm)) hb)
          have n1_ := mk_ (blk_below (kk_ BK140) hb)
          have n2_ := mk_ (blk_below (kk_ BK144) hb)
          have n3_ := mk_ (below_step (bs2_ HB GE140 GE144) hb)
          have n4_ := mk_ (hbox)
          have n5_ := mk_ (bz_ hg (bs2_ HB GE140 GE144))
          have n6_ := mk_ (bz_ hg (bs2_ HB GE140 GE144))
          have n7_ := mk_ (bl_ hg (kk_ BK140))
          have n8_ := mk_ (bg_ hg (kk_ BK140))
          have n9_ := mk_ (bl_ hg (kk_ BK144))
          have n10_ := mk_ (bg_ hg (kk_ BK144))
          clear HO_6
          clear BK140
          clear BK144
          clear HB
          have HO_6 := n0_
          have BK140 := n1_
          have BK144 := n2_
          have HB := n3_
          have BK159 := n4_
          have GW159 := n5_
          have GE159 := n6_
          have NB140_159 := n7_
          have NB159_140 := n8_
          have NB144_159 := n9_
          have NB159_144 := n10_
          clear n0_ n1_ n2_ n3_ n4_ n5_ n6_ n7_ n8_ n9_ n10_
          clear hb hbox hg
          refine hK.out _ _ ⟨(blk_cell BK144.out 0).trans rfl, (blk_cell BK144.out 1).trans rfl, (blk_cell BK144.out 2).trans rfl, (blk_cell BK144.out 3).trans rfl, (blk_cell BK144.out 4).trans rfl, (blk_cell BK140.out 0).trans rfl, (blk_cell BK140.out 1).trans rfl⟩ (fun hHeld => ?_)
          clear hK K
          refine norm_ (a' := ?_) ?_ ?_
          rotate_left
          ·show Act.put _ (some 9) _ = _
           simp only [Act.put, sI_, s0_, sS_, i64_w, i32_w]
           rfl
          refine one_ (i := 27) (N := some 72) (w_ 31 805306367) rfl rfl (one_of HT_.out (by kernel_rfl)) (by decide) (fun K hK => ?_)
          refine goes_ Try.func35 (by kernel_rfl) rfl #[.int .i64 (wrap64 (((rd_T51 l0 x20_2).f2.f0) * a1_0)), .int .i64 (wrap64 (((rd_T51 l0 x20_2).f2.f1) * a1_1))] (by rfl) rfl rfl (by (try simp only [List.map_toArray, List.map_cons, List.map_nil]); first | done | rfl | (simp only [List.length_drop, List.length_take]; rfl)) ?_
          with_reducible refine (piecewise_lowest.calls kj15 (wrap64 (((rd_T51 l0 x20_2).f2.f0) * a1_0)) (wrap64 (((rd_T51 l0 x20_2).f2.f1) * a1_1)) t157 t158 _ A37.out).mono ?_
          rintro e w44 ⟨rfl, hb⟩
          refine ⟨_, rfl, ?_⟩
          have n0_ := mk_ (Kd.R_below (rr_ HO_6) hb)
          have n1_ := mk_ (blk_below (kk_ BK140) hb)
          have n2_ := mk_ (blk_below (kk_ BK144) hb)
          have n3_ := mk_ (blk_below (kk_ BK159) hb)
          have n4_ := mk_ (below_step (bs3_ HB GE140 GE144 GE159) hb)
          clear HO_6
          clear BK140
          clear BK144
          clear BK159
          clear HB
          have HO_6 := n0_
          have BK140 := n1_
          have BK144 := n2_
          have BK159 := n3_
          have HB := n4_
          clear n0_ n1_ n2_ n3_ n4_
          (try clear hb)
          (try clear hb2)
          (try clear hk)
          (try clear hi)
          refine hK.out _ _ ⟨(blk_cell BK144.out 0).trans rfl, (blk_cell BK144.out 1).trans rfl, (blk_cell BK144.out 2).trans rfl, (blk_cell BK144.out 3).trans rfl, (blk_cell BK144.out 4).trans rfl, (blk_cell BK140.out 0).trans rfl, (blk_cell BK140.out 1).trans rfl⟩ (fun hHeld => ?_)
          clear hK K
          refine norm_ (a' := ?_) ?_ ?_
          rotate_left
          ·show Act.put _ (some 72) _ = _
           simp only [Act.put, sI_, s0_, sS_, i64_w, i32_w]
           rfl
          refine pu_ 28 73 (w_ 31 1073741823) rfl HT_ ?_
          exact norm_ (by simp only [putAll, Act.put, sI_, s0_, sS_]) (hCont (gb159) _ ⟨hHeld, (rr_ HO_6), (kk_ BK140), (kk_ BK144), (kk_ BK159), GW159.out, GE159.out, NB140_159.out, NB159_140.out, NB144_159.out, NB159_144.out, (bs3_ HB GE140 GE144 GE159)⟩)
        ·skip
         refine box_step ?hg (N := 9) ?hd (cs := #[.int .i64 0, .int .i64 0, .int .i64 0, .int .i64 0, .int .i64 0]) (t := 51) ?hr ?_; (case hd => rfl); (case hg => rfl); (case hr => first | (go_simp; done) | (go_simp; rfl))
         intro gb159 hg w42 hbox hb
         have n0_ := mk_ (Kd.R_below (Kd.R_elderB (rr_ HO_6) gb159 (Nat.le_of_eq hg.symm)) hb)
         have n1_ := mk_ (blk_below (kk_ BK140) hb)
         have n2_ := mk_ (blk_below (kk_ BK144) hb)
         have n3_ := mk_ (below_step (bs2_ HB GE140 GE144) hb)
         have n4_ := mk_ (hbox)
         have n5_ := mk_ (bz_ hg (bs2_ HB GE140 GE144))
         have n6_ := mk_ (bz_ hg (bs2_ HB GE140 GE144))
         have n7_ := mk_ (bl_ hg (kk_ BK140))
         have n8_ := mk_ (bg_ hg (kk_ BK140))
         have n9_ := mk_ (bl_ hg (kk_ BK144))
         have n10_ := mk_ (bg_ hg (kk_ BK144))
         clear HO_6
         clear BK140
         clear BK144
         clear HB
         have HO_6 := n0_
         have BK140 := n1_
         have BK144 := n2_
         have HB := n3_
         have BK159 := n4_
         have GW159 := n5_
         have GE159 := n6_
         have NB140_159 := n7_
         have NB159_140 := n8_
         have NB144_159 := n9_
         have NB159_144 := n10_
         clear n0_ n1_ n2_ n3_ n4_ n5_ n6_ n7_ n8_ n9_ n10_
         clear hb hbox hg
         refine hK.out _ _ ⟨(blk_cell BK144.out 0).trans rfl, (blk_cell BK144.out 1).trans rfl, (blk_cell BK144.out 2).trans rfl, (blk_cell BK144.out 3).trans rfl, (blk_cell BK144.out 4).trans rfl, (blk_cell BK140.out 0).trans rfl, (blk_cell BK140.out 1).trans rfl⟩ (fun hHeld => ?_)
         clear hK K
         refine norm_ (a' := ?_) ?_ ?_
         rotate_left
         ·show Act.put _ (some 9) _ = _
          simp only [Act.put, sI_, s0_, sS_, i64_w, i32_w]
          rfl
         refine one_ (i := 14) (N := some 59) (w_ 31 671088639) rfl rfl (one_of HT_.out (by kernel_rfl)) (by decide) (fun K hK => ?_)
         refine goes_ Try.func35 (by kernel_rfl) rfl #[.int .i64 (wrap64 (((rd_T51 l0 x20_2).f1.f0) * a1_0)), .int .i64 (wrap64 (((rd_T51 l0 x20_2).f1.f1) * a1_1))] (by rfl) rfl rfl (by (try simp only [List.map_toArray, List.map_cons, List.map_nil]); first | done | rfl | (simp only [List.length_drop, List.length_take]; rfl)) ?_
         with_reducible refine (piecewise_lowest.calls kj15 (wrap64 (((rd_T51 l0 x20_2).f1.f0) * a1_0)) (wrap64 (((rd_T51 l0 x20_2).f1.f1) * a1_1)) t155 t156 _ A36.out).mono ?_
         rintro e w43 ⟨rfl, hb⟩
         refine ⟨_, rfl, ?_⟩
         have n0_ := mk_ (Kd.R_below (rr_ HO_6) hb)
         have n1_ := mk_ (blk_below (kk_ BK140) hb)
         have n2_ := mk_ (blk_below (kk_ BK144) hb)
         have n3_ := mk_ (blk_below (kk_ BK159) hb)
         have n4_ := mk_ (below_step (bs3_ HB GE140 GE144 GE159) hb)
         clear HO_6
         clear BK140
         clear BK144
         clear BK159
         clear HB
         have HO_6 := n0_
         have BK140 := n1_
         have BK144 := n2_
         have BK159 := n3_
         have HB := n4_
         clear n0_ n1_ n2_ n3_ n4_
         (try clear hb)
         (try clear hb2)
         (try clear hk)
         (try clear hi)
         refine hK.out _ _ ⟨(blk_cell BK144.out 0).trans rfl, (blk_cell BK144.out 1).trans rfl, (blk_cell BK144.out 2).trans rfl, (blk_cell BK144.out 3).trans rfl, (blk_cell BK144.out 4).trans rfl, (blk_cell BK140.out 0).trans rfl, (blk_cell BK140.out 1).trans rfl⟩ (fun hHeld => ?_)
         clear hK K
         refine norm_ (a' := ?_) ?_ ?_
         rotate_left
         ·show Act.put _ (some 59) _ = _
          simp only [Act.put, sI_, s0_, sS_, i64_w, i32_w]
          rfl
         refine one_ (i := 27) (N := some 72) (w_ 31 805306367) rfl rfl (one_of HT_.out (by kernel_rfl)) (by decide) (fun K hK => ?_)
         refine goes_ Try.func35 (by kernel_rfl) rfl #[.int .i64 (wrap64 (((rd_T51 l0 x20_2).f2.f0) * a1_0)), .int .i64 (wrap64 (((rd_T51 l0 x20_2).f2.f1) * a1_1))] (by rfl) rfl rfl (by (try simp only [List.map_toArray, List.map_cons, List.map_nil]); first | done | rfl | (simp only [List.length_drop, List.length_take]; rfl)) ?_
         with_reducible refine (piecewise_lowest.calls kj15 (wrap64 (((rd_T51 l0 x20_2).f2.f0) * a1_0)) (wrap64 (((rd_T51 l0 x20_2).f2.f1) * a1_1)) t157 t158 _ A37.out).mono ?_
         rintro e w44 ⟨rfl, hb⟩
         refine ⟨_, rfl, ?_⟩
         have n0_ := mk_ (Kd.R_below (rr_ HO_6) hb)
         have n1_ := mk_ (blk_below (kk_ BK140) hb)
         have n2_ := mk_ (blk_below (kk_ BK144) hb)
         have n3_ := mk_ (blk_below (kk_ BK159) hb)
         have n4_ := mk_ (below_step (bs3_ HB GE140 GE144 GE159) hb)
         clear HO_6
         clear BK140
         clear BK144
         clear BK159
         clear HB
         have HO_6 := n0_
         have BK140 := n1_
         have BK144 := n2_
         have BK159 := n3_
         have HB := n4_
         clear n0_ n1_ n2_ n3_ n4_
         (try clear hb)
         (try clear hb2)
         (try clear hk)
         (try clear hi)
         refine hK.out _ _ ⟨(blk_cell BK144.out 0).trans rfl, (blk_cell BK144.out 1).trans rfl, (blk_cell BK144.out 2).trans rfl, (blk_cell BK144.out 3).trans rfl, (blk_cell BK144.out 4).trans rfl, (blk_cell BK140.out 0).trans rfl, (blk_cell BK140.out 1).trans rfl⟩ (fun hHeld => ?_)
         clear hK K
         refine norm_ (a' := ?_) ?_ ?_
         rotate_left
         ·show Act.put _ (some 72) _ = _
          simp only [Act.put, sI_, s0_, sS_, i64_w, i32_w]
          rfl
         refine pu_ 28 73 (w_ 31 1073741823) rfl HT_ ?_
         exact norm_ (by simp only [putAll, Act.put, sI_, s0_, sS_]) (hCont (gb159) _ ⟨hHeld, (rr_ HO_6), (kk_ BK140), (kk_ BK144), (kk_ BK159), GW159.out, GE159.out, NB140_159.out, NB159_140.out, NB144_159.out, NB159_144.out, (bs3_ HB GE140 GE144 GE159)⟩)
       rintro gb159 w45 ⟨hS_, h0_, h1_, h2_, h3_, h4_, h5_, h6_, h7_, h8_, h9_, h10_⟩
       have n0_ : Aside0 (Kd.R k51 51 w45 w.heap.size (fun k_ => k_ ≠ gb144 ∧ k_ ≠ gb159) u6 x6_2) := ⟨h0_⟩
       have n1_ : Aside0 (w45.heap[gb140]? = some (.cells #[.int .i64 a1_0, .int .i64 a1_1] 24 (0, 0))) := ⟨h1_⟩
       have n2_ : Aside0 (w45.heap[gb144]? = some (.cells #[.int .i64 ((rd_T51 l0 x20_2).f0), .int .i64 ((rd_T51 l0 x20_2).f1.f0), .int .i64 ((rd_T51 l0 x20_2).f1.f1), .int .i64 ((rd_T51 l0 x20_2).f2.f0), .int .i64 ((rd_T51 l0 x20_2).f2.f1)] 51 (0, 0))) := ⟨h2_⟩
       have n3_ : Aside0 (w45.heap[gb159]? = some (.cells #[.int .i64 0, .int .i64 0, .int .i64 0, .int .i64 0, .int .i64 0] 51 (0, 0))) := ⟨h3_⟩
       have n4_ : Aside0 (w.heap.size ≤ gb159) := ⟨h4_⟩
       have n5_ : Aside0 (w.heap.size ≤ gb159) := ⟨h5_⟩
       have n6_ : Aside0 (gb140 ≠ gb159) := ⟨h6_⟩
       have n7_ : Aside0 (gb159 ≠ gb140) := ⟨h7_⟩
       have n8_ : Aside0 (gb144 ≠ gb159) := ⟨h8_⟩
       have n9_ : Aside0 (gb159 ≠ gb144) := ⟨h9_⟩
       have n10_ : Aside0 (Below w.heap.size w w45) := ⟨h10_⟩
       clear HO_6
       clear BK140
       clear BK144
       clear HB
       clear h0_ h1_ h2_ h3_ h4_ h5_ h6_ h7_ h8_ h9_ h10_
       have HO_6 := n0_
       have BK140 := n1_
       have BK144 := n2_
       have BK159 := n3_
       have GW159 := n4_
       have GE159 := n5_
       have NB140_159 := n6_
       have NB159_140 := n7_
       have NB144_159 := n8_
       have NB159_144 := n9_
       have HB := n10_
       clear n0_ n1_ n2_ n3_ n4_ n5_ n6_ n7_ n8_ n9_ n10_
       have hHeld : w45.cell? ⟨gb144, 0, none⟩ = some (.int .i64 ((rd_T51 l0 x20_2).f0)) ∧ w45.cell? ⟨gb144, 1, none⟩ = some (.int .i64 ((rd_T51 l0 x20_2).f1.f0)) ∧ w45.cell? ⟨gb144, 2, none⟩ = some (.int .i64 ((rd_T51 l0 x20_2).f1.f1)) ∧ w45.cell? ⟨gb144, 3, none⟩ = some (.int .i64 ((rd_T51 l0 x20_2).f2.f0)) ∧ w45.cell? ⟨gb144, 4, none⟩ = some (.int .i64 ((rd_T51 l0 x20_2).f2.f1)) ∧ w45.cell? ⟨gb140, 0, none⟩ = some (.int .i64 a1_0) ∧ w45.cell? ⟨gb140, 1, none⟩ = some (.int .i64 a1_1) := hS_
       refine norm_ (a' := ?_) ?_ ?_
       rotate_left
       ·simp only [putAll, Act.put, sI_, s0_, sS_]
        rfl
       refine one_ (i := 30) (N := none) (w_ 31 2147483647) rfl rfl (one_of HT_.out (by kernel_rfl)) (by decide) (fun K hK => ?_)
       have hs46 : w45.cell? ⟨gb159, 0, none⟩ = some (.int .i64 0) := (blk_cell BK159.out 0).trans rfl
       have hfs46 := blk_frozen BK159.out 0
       have hns46_0 := NB140_159.out
       have hns46_1 := NB144_159.out
       have hms46_0 := NB159_140.out
       have hms46_1 := NB159_144.out
       have hs47 : w45.cell? ⟨gb159, 1, none⟩ = some (.int .i64 0) := (blk_cell BK159.out 1).trans rfl
       have hfs47 := blk_frozen BK159.out 1
       have hns47_0 := NB140_159.out
       have hns47_1 := NB144_159.out
       have hms47_0 := NB159_140.out
       have hms47_1 := NB159_144.out
       have hs48 : w45.cell? ⟨gb159, 2, none⟩ = some (.int .i64 0) := (blk_cell BK159.out 2).trans rfl
       have hfs48 := blk_frozen BK159.out 2
       have hns48_0 := NB140_159.out
       have hns48_1 := NB144_159.out
       have hms48_0 := NB159_140.out
       have hms48_1 := NB159_144.out
       have hs49 : w45.cell? ⟨gb159, 3, none⟩ = some (.int .i64 0) := (blk_cell BK159.out 3).trans rfl
       have hfs49 := blk_frozen BK159.out 3
       have hns49_0 := NB140_159.out
       have hns49_1 := NB144_159.out
       have hms49_0 := NB159_140.out
       have hms49_1 := NB159_144.out
       have hs50 : w45.cell? ⟨gb159, 4, none⟩ = some (.int .i64 0) := (blk_cell BK159.out 4).trans rfl
       have hfs50 := blk_frozen BK159.out 4
       have hns50_0 := NB140_159.out
       have hns50_1 := NB144_159.out
       have hms50_0 := NB159_140.out
       have hms50_1 := NB159_144.out
       refine skip_ (w1 := ?_) (by rfl) rfl ?_ ?_
       rotate_left
       ·go_simp
        rfl
       refine hK.out _ _ ⟨((cell_far (p := ⟨gb159, _, none⟩) NB144_159.out _).trans (((cell_far (p := ⟨gb159, _, none⟩) NB144_159.out _).trans (((cell_far (p := ⟨gb159, _, none⟩) NB144_159.out _).trans (((cell_far (p := ⟨gb159, _, none⟩) NB144_159.out _).trans (((cell_far (p := ⟨gb159, _, none⟩) NB144_159.out _).trans (hHeld.1)))))))))), ((cell_far (p := ⟨gb159, _, none⟩) NB144_159.out _).trans (((cell_far (p := ⟨gb159, _, none⟩) NB144_159.out _).trans (((cell_far (p := ⟨gb159, _, none⟩) NB144_159.out _).trans (((cell_far (p := ⟨gb159, _, none⟩) NB144_159.out _).trans (((cell_far (p := ⟨gb159, _, none⟩) NB144_159.out _).trans (hHeld.2.1)))))))))), ((cell_far (p := ⟨gb159, _, none⟩) NB144_159.out _).trans (((cell_far (p := ⟨gb159, _, none⟩) NB144_159.out _).trans (((cell_far (p := ⟨gb159, _, none⟩) NB144_159.out _).trans (((cell_far (p := ⟨gb159, _, none⟩) NB144_159.out _).trans (((cell_far (p := ⟨gb159, _, none⟩) NB144_159.out _).trans (hHeld.2.2.1)))))))))), ((cell_far (p := ⟨gb159, _, none⟩) NB144_159.out _).trans (((cell_far (p := ⟨gb159, _, none⟩) NB144_159.out _).trans (((cell_far (p := ⟨gb159, _, none⟩) NB144_159.out _).trans (((cell_far (p := ⟨gb159, _, none⟩) NB144_159.out _).trans (((cell_far (p := ⟨gb159, _, none⟩) NB144_159.out _).trans (hHeld.2.2.2.1)))))))))), ((cell_far (p := ⟨gb159, _, none⟩) NB144_159.out _).trans (((cell_far (p := ⟨gb159, _, none⟩) NB144_159.out _).trans (((cell_far (p := ⟨gb159, _, none⟩) NB144_159.out _).trans (((cell_far (p := ⟨gb159, _, none⟩) NB144_159.out _).trans (((cell_far (p := ⟨gb159, _, none⟩) NB144_159.out _).trans (hHeld.2.2.2.2.1)))))))))), ((cell_far (p := ⟨gb159, _, none⟩) NB140_159.out _).trans (((cell_far (p := ⟨gb159, _, none⟩) NB140_159.out _).trans (((cell_far (p := ⟨gb159, _, none⟩) NB140_159.out _).trans (((cell_far (p := ⟨gb159, _, none⟩) NB140_159.out _).trans (((cell_far (p := ⟨gb159, _, none⟩) NB140_159.out _).trans (hHeld.2.2.2.2.2.1)))))))))), ((cell_far (p := ⟨gb159, _, none⟩) NB140_159.out _).trans (((cell_far (p := ⟨gb159, _, none⟩) NB140_159.out _).trans (((cell_far (p := ⟨gb159, _, none⟩) NB140_159.out _).trans (((cell_far (p := ⟨gb159, _, none⟩) NB140_159.out _).trans (((cell_far (p := ⟨gb159, _, none⟩) NB140_159.out _).trans (hHeld.2.2.2.2.2.2))))))))))⟩ (fun hHeld => ?_)
       clear hK K
       refine done_ (done_of HT_.out (by kernel_rfl)) ?_
       have hnb51 := NB159_140.out
       have hnc51 := NB140_159.out
       have hnb52 := NB159_144.out
       have hnc52 := NB144_159.out
       have hcz53_0 := bc0_ BK159.out
       have hcz53_1 := bc1_ BK159.out
       have hcz53_2 := bc2_ BK159.out
       have hcz53_3 : w45.cell? ⟨gb159, 3, none⟩ = some (.int .i64 0) := (blk_cell BK159.out 3).trans rfl
       have hcz53_4 : w45.cell? ⟨gb159, 4, none⟩ = some (.int .i64 0) := (blk_cell BK159.out 4).trans rfl
       have hfz53_0 := blk_frozen BK159.out 0
       have hfz53_1 := blk_frozen BK159.out 1
       have hfz53_2 := blk_frozen BK159.out 2
       have hfz53_3 := blk_frozen BK159.out 3
       have hfz53_4 := blk_frozen BK159.out 4
       try go_wp2_with (first | ((with_reducible refine gate_callee (f := 38) rfl ?_); refine gl_ (some 75) Try.func38 #[.agg #[.int .i64 ((rd_T51 l0 x20_2).f0), .int .i64 t155, .int .i64 t156, .int .i64 t157, .int .i64 t158]] ?_; (with_reducible refine (piecewise_numbers.calls ((rd_T51 l0 x20_2).f0) t155 t156 t157 t158 true _ A38.out).mono ?_); rintro e w54 ⟨rfl, hb⟩; refine ⟨_, rfl, ?_⟩; have n0_ := mk_ (Kd.R_below (by (with_reducible repeat (first | apply Kd.R_alloc | apply Kd.R_drewN | apply Kd.R_drew)); exact (Kd.R_mono (Kd.R_far (p := ⟨gb159, 4, none⟩) (Kd.R_far (p := ⟨gb159, 3, none⟩) (Kd.R_far (p := ⟨gb159, 2, none⟩) (Kd.R_far (p := ⟨gb159, 1, none⟩) (Kd.R_far (p := ⟨gb159, 0, none⟩) (Kd.R_mono HO_6.out (fun k_ hk => (⟨hk, hk.2⟩ : _ ∧ k_ ≠ gb159))) (fun _ hk => hk.2) (.int .i64 ((rd_T51 l0 x20_2).f0))) (fun _ hk => hk.2) (.int .i64 t155)) (fun _ hk => hk.2) (.int .i64 t156)) (fun _ hk => hk.2) (.int .i64 t157)) (fun _ hk => hk.2) (.int .i64 t158)) (fun _ h_ => h_.1))) hb); have n1_ := mk_ (blk_below (g := gb140) (o := .cells #[.int .i64 a1_0, .int .i64 a1_1] 24 (0, 0)) (by (with_reducible repeat (first | refine blk_drewN ?_ _ | refine blk_drew ?_ | refine blk_alloc ?_ _)); refine blk_far ?_ NB140_159.out _; (with_reducible repeat (first | refine blk_drewN ?_ _ | refine blk_drew ?_ | refine blk_alloc ?_ _)); refine blk_far ?_ NB140_159.out _; (with_reducible repeat (first | refine blk_drewN ?_ _ | refine blk_drew ?_ | refine blk_alloc ?_ _)); refine blk_far ?_ NB140_159.out _; (with_reducible repeat (first | refine blk_drewN ?_ _ | refine blk_drew ?_ | refine blk_alloc ?_ _)); refine blk_far ?_ NB140_159.out _; (with_reducible repeat (first | refine blk_drewN ?_ _ | refine blk_drew ?_ | refine blk_alloc ?_ _)); refine blk_far ?_ NB140_159.out _; (with_reducible repeat (first | refine blk_drewN ?_ _ | refine blk_drew ?_ | refine blk_alloc ?_ _)); exact BK140.out) hb); have n2_ := mk_ (blk_below (g := gb144) (o := .cells #[.int .i64 ((rd_T51 l0 x20_2).f0), .int .i64 ((rd_T51 l0 x20_2).f1.f0), .int .i64 ((rd_T51 l0 x20_2).f1.f1), .int .i64 ((rd_T51 l0 x20_2).f2.f0), .int .i64 ((rd_T51 l0 x20_2).f2.f1)] 51 (0, 0)) (by (with_reducible repeat (first | refine blk_drewN ?_ _ | refine blk_drew ?_ | refine blk_alloc ?_ _)); refine blk_far ?_ NB144_159.out _; (with_reducible repeat (first | refine blk_drewN ?_ _ | refine blk_drew ?_ | refine blk_alloc ?_ _)); refine blk_far ?_ NB144_159.out _; (with_reducible repeat (first | refine blk_drewN ?_ _ | refine blk_drew ?_ | refine blk_alloc ?_ _)); refine blk_far ?_ NB144_159.out _; (with_reducible repeat (first | refine blk_drewN ?_ _ | refine blk_drew ?_ | refine blk_alloc ?_ _)); refine blk_far ?_ NB144_159.out _; (with_reducible repeat (first | refine blk_drewN ?_ _ | refine blk_drew ?_ | refine blk_alloc ?_ _)); refine blk_far ?_ NB144_159.out _; (with_reducible repeat (first | refine blk_drewN ?_ _ | refine blk_drew ?_ | refine blk_alloc ?_ _)); exact BK144.out) hb); have n3_ := mk_ (blk_below (g := gb159) (o := .cells #[.int .i64 ((rd_T51 l0 x20_2).f0), .int .i64 t155, .int .i64 t156, .int .i64 t157, .int .i64 t158] 51 (0, 0)) (by (with_reducible repeat (first | refine blk_drewN ?_ _ | refine blk_drew ?_ | refine blk_alloc ?_ _)); refine blk_put (cs := #[.int .i64 ((rd_T51 l0 x20_2).f0), .int .i64 t155, .int .i64 t156, .int .i64 t157, .int .i64 0]) ?_ 4 _ rfl; (with_reducible repeat (first | refine blk_drewN ?_ _ | refine blk_drew ?_ | refine blk_alloc ?_ _)); refine blk_put (cs := #[.int .i64 ((rd_T51 l0 x20_2).f0), .int .i64 t155, .int .i64 t156, .int .i64 0, .int .i64 0]) ?_ 3 _ rfl; (with_reducible repeat (first | refine blk_drewN ?_ _ | refine blk_drew ?_ | refine blk_alloc ?_ _)); refine blk_put (cs := #[.int .i64 ((rd_T51 l0 x20_2).f0), .int .i64 t155, .int .i64 0, .int .i64 0, .int .i64 0]) ?_ 2 _ rfl; (with_reducible repeat (first | refine blk_drewN ?_ _ | refine blk_drew ?_ | refine blk_alloc ?_ _)); refine blk_put (cs := #[.int .i64 ((rd_T51 l0 x20_2).f0), .int .i64 0, .int .i64 0, .int .i64 0, .int .i64 0]) ?_ 1 _ rfl; (with_reducible repeat (first | refine blk_drewN ?_ _ | refine blk_drew ?_ | refine blk_alloc ?_ _)); refine blk_put (cs := #[.int .i64 0, .int .i64 0, .int .i64 0, .int .i64 0, .int .i64 0]) ?_ 0 _ rfl; (with_reducible repeat (first | refine blk_drewN ?_ _ | refine blk_drew ?_ | refine blk_alloc ?_ _)); exact BK159.out) hb); have n4_ := mk_ (below_step (bs3_ HB GE140 GE144 GE159) hb); clear HO_6 BK140 BK144 BK159 HB; revert n0_ n1_ n2_ n3_ n4_; intro HO_6 BK140 BK144 BK159 HB; (try clear hb); (try clear hb2); (try clear hk); (try clear hi); have hcz55_0 := bc0_ BK159.out; have hcz55_1 := bc1_ BK159.out; have hcz55_2 := bc2_ BK159.out; have hcz55_3 : w54.cell? ⟨gb159, 3, none⟩ = some (.int .i64 t157) := (blk_cell BK159.out 3).trans rfl; have hcz55_4 : w54.cell? ⟨gb159, 4, none⟩ = some (.int .i64 t158) := (blk_cell BK159.out 4).trans rfl; have hfz55_0 := blk_frozen BK159.out 0; have hfz55_1 := blk_frozen BK159.out 1; have hfz55_2 := blk_frozen BK159.out 2; have hfz55_3 := blk_frozen BK159.out 3; have hfz55_4 := blk_frozen BK159.out 4) | ((with_reducible refine gate_builtin (b := .append) (xs := #[.tmp 77, .tmp 79]) rfl ?_); at_builtin; refine Kd.R_append k51 (w0 := w) w.heap.size rfl (.tmp 77) (.tmp 79) 22 51 (.agg #[(.int .i64 0), (.int .i64 0), (.int .i64 0), (.int .i64 0), (.int .i64 0)]) 40 rfl Try.underlying22 info51 rfl (by decide) (by omega) u6 x6_2 (⟨((rd_T51 l0 x20_2).f0), (⟨t155, t156⟩ : S24), (⟨t157, t158⟩ : S24)⟩ : S51) [.int .i64 ((rd_T51 l0 x20_2).f0), .int .i64 t155, .int .i64 t156, .int .i64 t157, .int .i64 t158] (fun k_ => k_ ≠ gb144 ∧ k_ ≠ gb159) (fun _ => False) rfl rfl ?aP (fun _ hk => hk.elim) ?aF ?aO ?aB ?aS ?aL ?_; (case aP => exact k51_mkM _ _ _ (⟨((rd_T51 l0 x20_2).f0), (⟨t155, t156⟩ : S24), (⟨t157, t158⟩ : S24)⟩ : S51)); (case aB => exact (bs3_ HB GE140 GE144 GE159)); (case aF => exact (fun k_ hk => ⟨Kd.freshB (g := gb144) (o := .cells #[.int .i64 ((rd_T51 l0 x20_2).f0), .int .i64 ((rd_T51 l0 x20_2).f1.f0), .int .i64 ((rd_T51 l0 x20_2).f1.f1), .int .i64 ((rd_T51 l0 x20_2).f2.f0), .int .i64 ((rd_T51 l0 x20_2).f2.f1)] 51 (0, 0)) (kk_ BK144) k_ hk, Kd.freshB (g := gb159) (o := .cells #[.int .i64 ((rd_T51 l0 x20_2).f0), .int .i64 t155, .int .i64 t156, .int .i64 t157, .int .i64 t158] 51 (0, 0)) (kk_ BK159) k_ hk⟩)); (case aO => exact (rr_ HO_6)); (case aS => exact (below_size (bs3_ HB GE140 GE144 GE159))); (case aL => have := LMc40.out; omega); intro v162 w56 ho hb hg hat; rw [← Ny161.out] at ho; have n0_ := mk_ (blk_grown (kk_ BK140) hg (Kd.R_ne HO_6.out BK140.out (by decide))); have n1_ := mk_ (blk_grown (kk_ BK144) hg (Kd.R_away HO_6.out (fun _ hk => hk.1))); have n2_ := mk_ (blk_grown (kk_ BK159) hg (Kd.R_away HO_6.out (fun _ hk => hk.2))); have n3_ := mk_ (hb); have n4_ := mk_ (ho); clear BK140 BK144 BK159 HB HO_6; revert n0_ n1_ n2_ n3_ n4_; intro BK140 BK144 BK159 HB HO163; clear ho hb hg hat))
       go_roundg kj15
       case measure => have := HJ2.out; have := HK2.out; have := HJ15.out; omega
       case rel => exact ⟨(y161), (wrap64 (x20_2 + 1)), sd_, H', ⟨by have := HJ2.out; have := HK2.out; have := HJ15.out; omega⟩, ⟨by (with_reducible repeat (first | apply Kd.R_alloc | apply Kd.R_drewN | apply Kd.R_drew)); exact Kd.R_mono HO163.out (fun _ hk => trivial)⟩, ⟨kk_ BK140⟩, ⟨bs3_ HB GE140 GE144 GE159⟩⟩
end
section
def piecewise_line_less.f (a0_0 : Int) (a0_1 : Int) (a0_2 : Int) (a0_3 : Int) (a1_0 : Int) (a1_1 : Int) (a1_2 : Int) (a1_3 : Int) (a2 : Int) : Option (Bool) := (piecewise_line_at.f a0_0 a0_1 a0_2 a0_3 a2).bind fun t166 => ((piecewise_line_at.f a1_0 a1_1 a1_2 a1_3 a2).bind fun t167 => (some (decide ((wrap64 (t166 * a1_2)) < (wrap64 (t167 * a0_2))))))
def piecewise_line_less.T1 : Bool × List (List Nat × List Nat) := (true, [([], []), ([], []), ([0, 1], [0, 1]), ([], []), ([3], [3]), ([2, 4], [2, 4]), ([], []), ([], []), ([6, 7, 2], [6, 7]), ([], []), ([9], [9]), ([8, 10], [8, 10]), ([5, 11], [5, 11]), ([12, 8, 0, 1, 2, 3, 4, 5, 6, 7, 8, 9, 10, 11, 12], [12])])
def piecewise_line_less.B1 : List Nat := [0, 0, 3, 0, 8, 31, 0, 0, 199, 0, 512, 1991, 4095, 8191]
theorem piecewise_line_less.tab1 : rtab .any (opsOf Try.f49 1) = piecewise_line_less.T1 := by kernel_rfl
theorem piecewise_line_less.bits1 : waitsOk piecewise_line_less.T1.2 piecewise_line_less.B1 = true := by kernel_rfl
theorem piecewise_line_less.calls (a0_0 : Int) (a0_1 : Int) (a0_2 : Int) (a0_3 : Int) (a1_0 : Int) (a1_1 : Int) (a1_2 : Int) (a1_3 : Int) (a2 : Int) (r : Bool) (w : World) (h : piecewise_line_less.f a0_0 a0_1 a0_2 a0_3 a1_0 a1_1 a1_2 a1_3 a2 = some r) :
  Calls Try.prog 49 #[.agg #[.int .i64 a0_0, .int .i64 a0_1, .int .i64 a0_2, .int .i64 a0_3], .agg #[.int .i64 a1_0, .int .i64 a1_1, .int .i64 a1_2, .int .i64 a1_3], .int .i64 a2] w fun e w' => e = .returned (.bool r) ∧ Below w.heap.size w w' := by
 have hu54 := Try.underlying54
 have HB := mk_ (Below.refl w.heap.size w)
 have H : ((piecewise_line_at.f a0_0 a0_1 a0_2 a0_3 a2).bind fun t166 => ((piecewise_line_at.f a1_0 a1_1 a1_2 a1_3 a2).bind fun t167 => (some (decide ((wrap64 (t166 * a1_2)) < (wrap64 (t167 * a0_2))))))) = some r := h
 clear h
 replace H := Option.bind_eq_some_iff.mp H
 obtain ⟨t166, A40, H⟩ := H
 replace H : ((piecewise_line_at.f a1_0 a1_1 a1_2 a1_3 a2).bind fun t167 => (some (decide ((wrap64 (t166 * a1_2)) < (wrap64 (t167 * a0_2)))))) = some r := H
 have A4 := mk_ A40
 clear A40
 replace H := Option.bind_eq_some_iff.mp H
 obtain ⟨t167, A50, H⟩ := H
 replace H : (some (decide ((wrap64 (t166 * a1_2)) < (wrap64 (t167 * a0_2))))) = some r := H
 have A5 := mk_ A50
 clear A50
 obtain rfl := Option.some.inj H
 go_enter Try.func49, Try.ntmps49
 try go_wp2_with (first | ((with_reducible refine gate_dst (N := 3) rfl ?_); refine box_event ?hg (N := 3) ?hd (cs := #[.int .i64 a0_0, .int .i64 a0_1, .int .i64 a0_2, .int .i64 a0_3]) (t := 54) ?hr ?_; (case hd => rfl); (case hg => rfl); (case hr => first | (go_simp; done) | (go_simp; rfl)); intro gb164 hg w6 hbox hb; have n0_ := mk_ (below_step (bb_ HB) hb); have n1_ := mk_ (hbox); have n2_ := mk_ (bz_ hg (bb_ HB)); have n3_ := mk_ (bz_ hg (bb_ HB)); clear HB; revert n0_ n1_ n2_ n3_; intro HB BK164 GW164 GE164; clear hb hbox hg) | ((with_reducible refine gate_dst (N := 4) rfl ?_); refine box_event ?hg (N := 4) ?hd (cs := #[.int .i64 a1_0, .int .i64 a1_1, .int .i64 a1_2, .int .i64 a1_3]) (t := 54) ?hr ?_; (case hd => rfl); (case hg => rfl); (case hr => first | (go_simp; done) | (go_simp; rfl)); intro gb165 hg w7 hbox hb; have n0_ := mk_ (blk_below (kk_ BK164) hb); have n1_ := mk_ (below_step (bs_ HB GE164.out) hb); have n2_ := mk_ (hbox); have n3_ := mk_ (bz_ hg (bs_ HB GE164.out)); have n4_ := mk_ (bz_ hg (bs_ HB GE164.out)); have n5_ := mk_ (bl_ hg (kk_ BK164)); have n6_ := mk_ (bg_ hg (kk_ BK164)); clear BK164 HB; revert n0_ n1_ n2_ n3_ n4_ n5_ n6_; intro BK164 HB BK165 GW165 GE165 NB164_165 NB165_164; clear hb hbox hg))
 have n0_ := mk_ (blk_drew BK164.out)
 have n1_ := mk_ (blk_drew BK165.out)
 have n2_ := mk_ (below_drew1 HB.out)
 clear BK164
 clear BK165
 clear HB
 have BK164 := n0_
 have BK165 := n1_
 have HB := n2_
 clear n0_ n1_ n2_
 refine start_ (n := 14) (S := fun w' => w'.cell? ⟨gb164, 0, none⟩ = some (.int .i64 a0_0) ∧ w'.cell? ⟨gb164, 1, none⟩ = some (.int .i64 a0_1) ∧ w'.cell? ⟨gb164, 2, none⟩ = some (.int .i64 a0_2) ∧ w'.cell? ⟨gb164, 3, none⟩ = some (.int .i64 a0_3) ∧ w'.cell? ⟨gb165, 0, none⟩ = some (.int .i64 a1_0) ∧ w'.cell? ⟨gb165, 1, none⟩ = some (.int .i64 a1_1) ∧ w'.cell? ⟨gb165, 2, none⟩ = some (.int .i64 a1_2) ∧ w'.cell? ⟨gb165, 3, none⟩ = some (.int .i64 a1_3)) (ds := []) #[n_, n_, n_, n_, n_, n_, n_, n_, n_, n_, n_, n_, n_, n_] (by kernel_rfl) rfl rfl ⟨(blk_cell BK164.out 0).trans rfl, (blk_cell BK164.out 1).trans rfl, (blk_cell BK164.out 2).trans rfl, (blk_cell BK164.out 3).trans rfl, (blk_cell BK165.out 0).trans rfl, (blk_cell BK165.out 1).trans rfl, (blk_cell BK165.out 2).trans rfl, (blk_cell BK165.out 3).trans rfl⟩ (fun hHeld => ?_); refine with_tabW piecewise_line_less.tab1 piecewise_line_less.bits1 (fun HT_ HW_ => ?_)
 generalize w7.drew = w8 at BK164 BK165 HB hHeld ⊢
 refine pu_ 1 8 (w_ 14 2) rfl HT_ ?_
 refine pu_ 3 10 (w_ 14 10) rfl HT_ ?_
 refine pu_ 7 14 (w_ 14 138) rfl HT_ ?_
 refine pu_ 9 16 (w_ 14 650) rfl HT_ ?_
 refine ta_ 0 7 (w_ 14 651) rfl HT_ HW_ hHeld (by rintro w' ⟨s0, s1, s2, s3, s4, s5, s6, s7⟩; go_simp; with_reducible rfl) ?_
 refine ta_ 4 11 (w_ 14 667) rfl HT_ HW_ hHeld (by rintro w' ⟨s0, s1, s2, s3, s4, s5, s6, s7⟩; go_simp; with_reducible rfl) ?_
 refine ta_ 6 13 (w_ 14 731) rfl HT_ HW_ hHeld (by rintro w' ⟨s0, s1, s2, s3, s4, s5, s6, s7⟩; go_simp; with_reducible rfl) ?_
 refine ta_ 10 17 (w_ 14 1755) rfl HT_ HW_ hHeld (by rintro w' ⟨s0, s1, s2, s3, s4, s5, s6, s7⟩; go_simp; with_reducible rfl) ?_
 refine one_ (i := 2) (N := some 9) (w_ 14 1759) rfl rfl (one_of HT_.out (by kernel_rfl)) (by decide) (fun K hK => ?_)
 refine goes_ Try.func36 (by kernel_rfl) rfl #[.agg #[.int .i64 a0_0, .int .i64 a0_1, .int .i64 a0_2, .int .i64 a0_3], .int .i64 a2] (by rfl) rfl rfl (by (try simp only [List.map_toArray, List.map_cons, List.map_nil]); first | done | rfl | (simp only [List.length_drop, List.length_take]; rfl)) ?_
 with_reducible refine (piecewise_line_at.calls a0_0 a0_1 a0_2 a0_3 a2 t166 _ A4.out).mono ?_
 rintro e w9 ⟨rfl, hb⟩
 refine ⟨_, rfl, ?_⟩
 have n0_ := mk_ (blk_below (kk_ BK164) hb)
 have n1_ := mk_ (blk_below (kk_ BK165) hb)
 have n2_ := mk_ (below_step (bs2_ HB GE164 GE165) hb)
 clear BK164
 clear BK165
 clear HB
 have BK164 := n0_
 have BK165 := n1_
 have HB := n2_
 clear n0_ n1_ n2_
 (try clear hb)
 (try clear hb2)
 (try clear hk)
 (try clear hi)
 refine hK.out _ _ ⟨(blk_cell BK164.out 0).trans rfl, (blk_cell BK164.out 1).trans rfl, (blk_cell BK164.out 2).trans rfl, (blk_cell BK164.out 3).trans rfl, (blk_cell BK165.out 0).trans rfl, (blk_cell BK165.out 1).trans rfl, (blk_cell BK165.out 2).trans rfl, (blk_cell BK165.out 3).trans rfl⟩ (fun hHeld => ?_)
 clear hK K
 refine norm_ (a' := ?_) ?_ ?_
 rotate_left
 ·show Act.put _ (some 9) _ = _
  simp only [Act.put, sI_, s0_, sS_, i64_w, i32_w]
  rfl
 refine pu_ 5 12 (w_ 14 1791) rfl HT_ ?_
 refine one_ (i := 8) (N := some 15) (w_ 14 2047) rfl rfl (one_of HT_.out (by kernel_rfl)) (by decide) (fun K hK => ?_)
 refine goes_ Try.func36 (by kernel_rfl) rfl #[.agg #[.int .i64 a1_0, .int .i64 a1_1, .int .i64 a1_2, .int .i64 a1_3], .int .i64 a2] (by rfl) rfl rfl (by (try simp only [List.map_toArray, List.map_cons, List.map_nil]); first | done | rfl | (simp only [List.length_drop, List.length_take]; rfl)) ?_
 with_reducible refine (piecewise_line_at.calls a1_0 a1_1 a1_2 a1_3 a2 t167 _ A5.out).mono ?_
 rintro e w10 ⟨rfl, hb⟩
 refine ⟨_, rfl, ?_⟩
 have n0_ := mk_ (blk_below (kk_ BK164) hb)
 have n1_ := mk_ (blk_below (kk_ BK165) hb)
 have n2_ := mk_ (below_step (bs2_ HB GE164 GE165) hb)
 clear BK164
 clear BK165
 clear HB
 have BK164 := n0_
 have BK165 := n1_
 have HB := n2_
 clear n0_ n1_ n2_
 (try clear hb)
 (try clear hb2)
 (try clear hk)
 (try clear hi)
 refine hK.out _ _ ⟨(blk_cell BK164.out 0).trans rfl, (blk_cell BK164.out 1).trans rfl, (blk_cell BK164.out 2).trans rfl, (blk_cell BK164.out 3).trans rfl, (blk_cell BK165.out 0).trans rfl, (blk_cell BK165.out 1).trans rfl, (blk_cell BK165.out 2).trans rfl, (blk_cell BK165.out 3).trans rfl⟩ (fun hHeld => ?_)
 clear hK K
 refine norm_ (a' := ?_) ?_ ?_
 rotate_left
 ·show Act.put _ (some 15) _ = _
  simp only [Act.put, sI_, s0_, sS_, i64_w, i32_w]
  rfl
 refine pu_ 11 18 (w_ 14 4095) rfl HT_ ?_
 refine pu_ 12 19 (w_ 14 8191) rfl HT_ ?_
 refine pu_ 13 6 (w_ 14 16383) rfl HT_ ?_
 refine done_ (done_of HT_.out (by kernel_rfl)) ?_
 try go_wp2
 go_ret
 exact ⟨ew_, bs2_ HB GE164 GE165⟩
end
end Go.Proofs.Ytmhimmodigeeiaa.P
end
