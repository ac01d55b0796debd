/- Part 1 of the proof of FlowKnowledge: what it alone needs. -/
import Derived.Test.YtmojlpafpeeelaaCBd
set_option linter.unusedVariables false
set_option linter.unusedSimpArgs false
section
namespace Go.Proofs.Ytmojlpafpeeelaa.P
open Go.RowKit Go.Proofs.YtmojlpafpeeelaaW.PrintWords Go.Proofs.YtmojlpafpeeelaaW.PrintLast Go.Proofs.YtmojlpafpeeelaaW.PrintMore
attribute [local go_sem] max2_int min2_int max_two min_two max_three min_three max_four min_four
set_option linter.unusedVariables false
set_option linter.unusedSimpArgs false
mutual
def cohousinglaw28_FlowKnowledge.l0 : Nat → List (S44) → List (S39) → List (S39) → Bool → List (S39) → Int → Int → Option (Bool)
 | 0, _, _, _, _, _, _, _ => none
 | k + 1, x0, x1, x2, x7, x8, x28, x29 => if x29 < x28 then (if x29 < (x2.length : Int) then (if 0 ≤ x29 then (if x29 < (x8.length : Int) then (if (mx ((rd_T39 x8 x29).f0) ((rd_T39 x2 x29).f0)) ≤ (mn ((rd_T39 x8 x29).f1) ((rd_T39 x2 x29).f1)) then (cohousinglaw28_FlowKnowledge.l0 k x0 x1 x2 x7 (x8.set (x29 : Int).toNat (⟨mx ((rd_T39 x8 x29).f0) ((rd_T39 x2 x29).f0), mn ((rd_T39 x8 x29).f1) ((rd_T39 x2 x29).f1)⟩ : S39)) x28 (wrap64 (x29 + 1))) else (cohousinglaw28_FlowKnowledge.l0 k x0 x1 x2 x7 x8 x28 (wrap64 (x29 + 1)))) else (none)) else (none)) else (cohousinglaw28_FlowKnowledge.l0 k x0 x1 x2 x7 x8 x28 (wrap64 (x29 + 1)))) else ((flow_Bounds.f x0 x1).bind fun bt514 => ((flow_Bounds.f x0 x8).bind fun bt518 => (if bt514.2 = 0 then ((flow_Bounds.f x0 bt514.1).bind fun bt522 => (if bt522.2 = 0 then ((cohousingref28_Same.f k bt514.1 bt522.1).bind fun t526 => (cohousinglaw28_FlowKnowledge.j1 k x0 x7 bt514.1 bt518.1 bt518.2 (!t526))) else (cohousinglaw28_FlowKnowledge.j1 k x0 x7 bt514.1 bt518.1 bt518.2 true))) else (if x7 = true then (if bt514.2 = 30 then (some (bt518.2 == 30)) else (some false)) else (some false)))))
def cohousinglaw28_FlowKnowledge.j1 : Nat → List (S44) → Bool → List (S39) → List (S39) → Int → Bool → Option (Bool)
 | 0, _, _, _, _, _, _ => none
 | k + 1, x0, x7, x11, x13, x14, x105 => if x105 = true then (some false) else (if x14 = 0 then (if (x11.length : Int) = (x0.length : Int) then (cohousinglaw28_FlowKnowledge.j2 k x7 x11 x13 ((x13.length : Int) != (x0.length : Int))) else (cohousinglaw28_FlowKnowledge.j2 k x7 x11 x13 true)) else (if x7 = true then (some (x14 == 30)) else (some false)))
def cohousinglaw28_FlowKnowledge.j2 : Nat → Bool → List (S39) → List (S39) → Bool → Option (Bool)
 | 0, _, _, _, _ => none
 | k + 1, x7, x11, x13, x124 => if x124 = true then (some false) else (cohousinglaw28_FlowKnowledge.l1 k x7 x11 x13 (x11.length : Int) 0)
def cohousinglaw28_FlowKnowledge.l1 : Nat → Bool → List (S39) → List (S39) → Int → Int → Option (Bool)
 | 0, _, _, _, _, _ => none
 | k + 1, x7, x11, x13, x126, x127 => if x127 < x126 then (if x7 = true then (if 0 ≤ x127 then (if x127 < (x11.length : Int) then (if x127 < (x13.length : Int) then (if ((rd_T39 x11 x127).f0) ≤ ((rd_T39 x13 x127).f0) then (if ((rd_T39 x13 x127).f0) ≤ ((rd_T39 x13 x127).f1) then (cohousinglaw28_FlowKnowledge.l1 k (decide (((rd_T39 x13 x127).f1) ≤ ((rd_T39 x11 x127).f1))) x11 x13 x126 (wrap64 (x127 + 1))) else (cohousinglaw28_FlowKnowledge.l1 k false x11 x13 x126 (wrap64 (x127 + 1)))) else (cohousinglaw28_FlowKnowledge.l1 k false x11 x13 x126 (wrap64 (x127 + 1)))) else (none)) else (none)) else (none)) else (cohousinglaw28_FlowKnowledge.l1 k false x11 x13 x126 (wrap64 (x127 + 1)))) else (some x7)
end
def cohousinglaw28_FlowKnowledge.f (k : Nat) (l0 : List (S44)) (l1 : List (S39)) (l2 : List (S39)) : Option (Bool) := (cohousinglaw28_head.f k).bind fun t500 => ((cohousinglaw28_right.f l0 l1).bind fun t501 => (if t501 = true then ((some (([] : List (S39)) : List (S39))).bind fun y502 => (if y502.length + l1.length < 8796093022208 then ((some (y502 ++ l1 : List (S39))).bind fun y505 => (cohousinglaw28_FlowKnowledge.l0 k l0 l1 l2 t500 y505 (y505.length : Int) 0)) else (none))) else (some t500)))
def cohousinglaw28_FlowKnowledge.T9 : Bool × List (List Nat × List Nat) := (true, [([], []), ([], []), ([0, 1], [0, 1]), ([2], [2]), ([3], [3]), ([], []), ([], []), ([5, 6], [5, 6]), ([7], [7]), ([8], [8]), ([4, 9], [4, 9]), ([], []), ([], []), ([11, 12], [11, 12]), ([13], [13]), ([14], [14]), ([], []), ([], []), ([16, 17], [16, 17]), ([18], [18]), ([19], [19]), ([15, 20], [15, 20]), ([10, 21], [10, 21]), ([], []), ([23, 22, 0, 1, 2, 3, 4, 5, 6, 7, 8, 9, 10, 11, 12, 13, 14, 15, 16, 17, 18, 19, 20, 21, 22, 23], [22, 23])])
def cohousinglaw28_FlowKnowledge.B9 : List Nat := [0, 0, 3, 7, 15, 0, 0, 96, 224, 480, 1023, 0, 0, 6144, 14336, 30720, 0, 0, 196608, 458752, 983040, 2095104, 4194303, 0, 16777215]
theorem cohousinglaw28_FlowKnowledge.tab9 : rtab .any (opsOf Try.f6 9) = cohousinglaw28_FlowKnowledge.T9 := by kernel_rfl
theorem cohousinglaw28_FlowKnowledge.bits9 : waitsOk cohousinglaw28_FlowKnowledge.T9.2 cohousinglaw28_FlowKnowledge.B9 = true := by kernel_rfl
def cohousinglaw28_FlowKnowledge.T27 : Bool × List (List Nat × List Nat) := (true, [([], []), ([0], [0]), ([1], [1]), ([1], [1]), ([2, 3, 1], [1, 2, 3]), ([4, 1], [1, 4]), ([5, 1], [1, 5]), ([1], [1]), ([1], [1]), ([7, 8, 1], [1, 7, 8]), ([9, 1], [1, 9]), ([10, 1], [1, 10]), ([6, 11, 1], [1, 6, 11]), ([1, 12], [1, 12]), ([13, 1], [13]), ([14], [14]), ([14], [14]), ([15, 16, 14], [14, 15, 16]), ([17, 14], [14, 17]), ([18, 14], [14, 18]), ([14], [14]), ([14], [14]), ([20, 21, 14], [14, 20, 21]), ([22, 14], [14, 22]), ([23, 14], [14, 23]), ([19, 24, 14], [14, 19, 24]), ([14, 25], [14, 25]), ([26, 14], [26]), ([27], [27]), ([27], [27]), ([28, 29, 27], [27, 28, 29]), ([30, 27], [27, 30]), ([31, 27], [27, 31]), ([27], [27]), ([27], [27]), ([33, 34, 27], [27, 33, 34]), ([35, 27], [27, 35]), ([36, 27], [27, 36]), ([32, 37, 27], [27, 32, 37]), ([27, 38], [27, 38]), ([39, 27, 0, 1, 2, 3, 4, 5, 6, 7, 8, 9, 10, 11, 12, 13, 14, 15, 16, 17, 18, 19, 20, 21, 22, 23, 24, 25, 26, 27, 28, 29, 30, 31, 32, 33, 34, 35, 36, 37, 38, 39], [0, 39])])
def cohousinglaw28_FlowKnowledge.B27 : List Nat := [0, 1, 3, 3, 15, 31, 63, 3, 3, 387, 899, 1923, 4095, 8191, 16383, 32767, 32767, 131071, 262143, 524287, 32767, 32767, 3178495, 7372799, 15761407, 33554431, 67108863, 134217727, 268435455, 268435455, 1073741823, 2147483647, 4294967295, 268435455, 268435455, 26038239231, 60397977599, 129117454335, 274877906943, 549755813887, 1099511627775]
theorem cohousinglaw28_FlowKnowledge.tab27 : rtab .any (opsOf Try.f6 27) = cohousinglaw28_FlowKnowledge.T27 := by kernel_rfl
theorem cohousinglaw28_FlowKnowledge.bits27 : waitsOk cohousinglaw28_FlowKnowledge.T27.2 cohousinglaw28_FlowKnowledge.B27 = true := by kernel_rfl
set_option maxHeartbeats 8000000 in
set_option maxRecDepth 100000 in
theorem cohousinglaw28_FlowKnowledge.calls (k : Nat) (A0 : Option Addr) (c0 : Nat) (l0 : List (S44)) (A1 : Option Addr) (c1 : Nat) (l1 : List (S39)) (A2 : Option Addr) (c2 : Nat) (l2 : List (S39)) (r : Bool) (w : World) (hr0 : Kd.C k44 w A0 l0.length l0) (hc0 : l0.length ≤ c0) (hr1 : Kd.C k39 w A1 l1.length l1) (hc1 : l1.length ≤ c1) (hr2 : Kd.C k39 w A2 l2.length l2) (hc2 : l2.length ≤ c2) (h : cohousinglaw28_FlowKnowledge.f k l0 l1 l2 = some r) :
  Calls Try.prog 6 #[.slice A0 l0.length c0, .slice A1 l1.length c1, .slice A2 l2.length c2] w fun e w' => e = .returned (.bool r) ∧ Below w.heap.size w w' := by
 have hu39 := Try.underlying39
 have HR0 := Aside0.mk hr0
 have HC0 := Aside0.mk hc0
 clear hr0 hc0
 have HR1 := Aside0.mk hr1
 have HC1 := Aside0.mk hc1
 clear hr1 hc1
 have HR2 := Aside0.mk hr2
 have HC2 := Aside0.mk hc2
 clear hr2 hc2
 have HB := Aside0.mk (Below.refl w.heap.size w)
 have H : ((cohousinglaw28_head.f k).bind fun t500 => ((cohousinglaw28_right.f l0 l1).bind fun t501 => (if t501 = true then ((some (([] : List (S39)) : List (S39))).bind fun y502 => (if y502.length + l1.length < 8796093022208 then ((some (y502 ++ l1 : List (S39))).bind fun y505 => (cohousinglaw28_FlowKnowledge.l0 k l0 l1 l2 t500 y505 (y505.length : Int) 0)) else (none))) else (some t500)))) = some r := h
 clear h
 replace H := Option.bind_eq_some_iff.mp H
 obtain ⟨t500, A40, H⟩ := H
 replace H : ((cohousinglaw28_right.f l0 l1).bind fun t501 => (if t501 = true then ((some (([] : List (S39)) : List (S39))).bind fun y502 => (if y502.length + l1.length < 8796093022208 then ((some (y502 ++ l1 : List (S39))).bind fun y505 => (cohousinglaw28_FlowKnowledge.l0 k l0 l1 l2 t500 y505 (y505.length : Int) 0)) else (none))) else (some t500))) = some r := H
 have A4 := Aside0.mk A40
 clear A40
 replace H := Option.bind_eq_some_iff.mp H
 obtain ⟨t501, A50, H⟩ := H
 replace H : (if t501 = true then ((some (([] : List (S39)) : List (S39))).bind fun y502 => (if y502.length + l1.length < 8796093022208 then ((some (y502 ++ l1 : List (S39))).bind fun y505 => (cohousinglaw28_FlowKnowledge.l0 k l0 l1 l2 t500 y505 (y505.length : Int) 0)) else (none))) else (some t500)) = some r := H
 have A5 := Aside0.mk A50
 clear A50
 by_cases c6 : t501 = true
 ·subst c6
  have H1 : ((some (([] : List (S39)) : List (S39))).bind fun y502 => (if y502.length + l1.length < 8796093022208 then ((some (y502 ++ l1 : List (S39))).bind fun y505 => (cohousinglaw28_FlowKnowledge.l0 k l0 l1 l2 t500 y505 (y505.length : Int) 0)) else (none))) = some r := by rw [if_pos rfl] at H; exact H
  clear H
  have H := H1
  clear H1
  obtain ⟨y502, hy502⟩ : ∃ y_ : List (S39), y_ = (([] : List (S39))) := ⟨_, rfl⟩
  replace H : (if y502.length + l1.length < 8796093022208 then ((some (y502 ++ l1 : List (S39))).bind fun y505 => (cohousinglaw28_FlowKnowledge.l0 k l0 l1 l2 t500 y505 (y505.length : Int) 0)) else (none)) = some r := by first | (rw [hy502]; with_reducible exact H) | (have H2_ := (Option.bind_some _ _).symm.trans H; rw [hy502]; with_reducible exact H2_) | (have H2_ := (Option.bind_some _ _).symm.trans H; with_reducible exact H2_) | with_reducible exact H | (rw [hy502]; exact H) | exact H
  have Ny502 := Aside0.mk hy502
  clear hy502
  by_cases c7 : y502.length + l1.length < 8796093022208
  ·rw [if_pos c7] at H
   have LMc7 := Aside0.mk c7
   clear c7
   obtain ⟨y505, hy505⟩ : ∃ y_ : List (S39), y_ = (y502 ++ l1) := ⟨_, rfl⟩
   replace H : (cohousinglaw28_FlowKnowledge.l0 k l0 l1 l2 t500 y505 (y505.length : Int) 0) = some r := by first | (rw [hy505]; with_reducible exact H) | (have H2_ := (Option.bind_some _ _).symm.trans H; rw [hy505]; with_reducible exact H2_) | (have H2_ := (Option.bind_some _ _).symm.trans H; with_reducible exact H2_) | with_reducible exact H | (rw [hy505]; exact H) | exact H
   have Ny505 := Aside0.mk hy505
   clear hy505
   have H' := Aside0.mk H
   clear H
   go_enter Try.func6, Try.ntmps6
   go_wp2_with (first | ((with_reducible refine gate_callee (f := 10) rfl ?_); refine goesL_ (some 18) rfl rfl Try.func10 (by kernel_rfl) rfl #[] rfl (by (try simp only [List.map_toArray, List.map_cons, List.map_nil]); first | done | rfl | (simp only [List.length_drop, List.length_take]; rfl)) ?_; (with_reducible refine (cohousinglaw28_head.calls k  t500 _ A4.out).mono ?_); rintro e w8 ⟨rfl, hb⟩; refine ⟨_, rfl, ?_⟩; have n0_ := Aside0.mk (below_step (by repeat (first | (with_reducible first | exact HB.out | apply below_alloc | apply pw_below_drewN | apply below_drew1) | exact HB.out)) hb); clear HB; have HB := n0_; clear n0_; (try clear hb); (try clear hb2); (try clear hk); (try clear hi)) | ((with_reducible refine gate_callee (f := 21) rfl ?_); refine goesL_ (some 21) rfl rfl Try.func21 (by kernel_rfl) rfl #[.slice A0 l0.length c0, .slice A1 l1.length c1] rfl (by (try simp only [List.map_toArray, List.map_cons, List.map_nil]); first | done | rfl | (simp only [List.length_drop, List.length_take]; rfl)) ?_; (with_reducible refine (cohousinglaw28_right.calls _ _ l0 _ _ l1 true _ ?side1 ?side2 ?side3 ?side4 A5.out).mono ?_); (case side1 => repeat (first | exact (Kd.C_below HR0.out HB.out) | (with_reducible refine Kd.C_alloc ?_ _) | (with_reducible refine Kd.C_drewN ?_ _) | (with_reducible refine Kd.C_drew ?_))); (case side2 => exact HC0.out); (case side3 => repeat (first | exact (Kd.C_below HR1.out HB.out) | (with_reducible refine Kd.C_alloc ?_ _) | (with_reducible refine Kd.C_drewN ?_ _) | (with_reducible refine Kd.C_drew ?_))); (case side4 => exact HC1.out); rintro e w9 ⟨rfl, hb⟩; refine ⟨_, rfl, ?_⟩; have n0_ := Aside0.mk (below_step (by repeat (first | (with_reducible first | exact HB.out | apply below_alloc | apply pw_below_drewN | apply below_drew1) | exact HB.out)) hb); clear HB; have HB := n0_; clear n0_; (try clear hb); (try clear hb2); (try clear hk); (try clear hi)) | ((with_reducible refine gate_dst (N := 24) rfl ?_); (try (refine gate_guard (by rfl) ?_; dsimp only)); refine Kd.R_lit k39 _ 39 ?hg (N := 24) ?hd (xs := ([] : List (S39))) (inner := []) (ok := fun _ => True) (okp := fun _ => True) ?hr ?hp (fun _ hk => hk) trivial (Below.refl _ _) (Nat.le_refl _) (by simp) ?_; (case hd => rfl); (case hg => rfl); (case hr => first | (go_simp; done) | (go_simp; rfl)); (case hp => exact (Reps.none _ _)); intro v503 w10 ho11 hb hg_ hnew_; clear hg_ hnew_; (first | rw [← Ny502.out] at ho11 | (simp only [Int.reduceToNat] at ho11; rw [← Ny502.out] at ho11)); have n0_ := Aside0.mk (Kd.R_lower ho11 (below_size (by repeat (first | (with_reducible first | exact HB.out | apply below_alloc | apply pw_below_drewN | apply below_drew1) | exact HB.out)))); have n1_ := Aside0.mk (below_step (by repeat (first | (with_reducible first | exact HB.out | apply below_alloc | apply pw_below_drewN | apply below_drew1) | exact HB.out)) hb); clear HB; have HO504 := n0_; have HB := n1_; clear n0_ n1_; clear hb ho11) | ((with_reducible refine gate_builtin (b := .append) (xs := #[.tmp 24, .tmp 25]) rfl ?_); (try (refine gate_guard (by rfl) ?_; dsimp only)); at_builtin; refine Kd.R_append_rows k39 (w0 := w) w.heap.size rfl (.tmp 24) (.tmp 25) 23 39 (.agg #[(.int .i64 0), (.int .i64 0)]) 16 rfl Try.underlying23 info39 rfl (by decide) (by omega) v503 y502 l1 _ _ _ (fun _ => True) (fun _ => False) rfl rfl ?aO ?aR (fun _ _ h => h) (fun _ h => h.elim) ?aF ?aB ?aS ?aL ?_; (case aR => repeat (first | exact (Kd.C_below HR1.out HB.out) | (with_reducible refine Kd.C_alloc ?_ _) | (with_reducible refine Kd.C_drewN ?_ _) | (with_reducible refine Kd.C_drew ?_))); (case aB => exact (by repeat (first | (with_reducible first | exact HB.out | apply below_alloc | apply pw_below_drewN | apply below_drew1) | exact HB.out))); (case aF => exact (fun _ _ => trivial)); (case aO => exact (by (with_reducible repeat (first | apply Kd.R_alloc | apply Kd.R_drewN | apply Kd.R_drew)); exact HO504.out)); (case aS => exact (below_size (by repeat (first | (with_reducible first | exact HB.out | apply below_alloc | apply pw_below_drewN | apply below_drew1) | exact HB.out)))); (case aL => have := LMc7.out; omega); intro v506 w12 ho hb hg hat; rw [← Ny505.out] at ho; have n0_ := Aside0.mk (hb); have n1_ := Aside0.mk (ho); clear HB; clear HO504; have HB := n0_; have HO507 := n1_; clear n0_ n1_; clear ho hb hg hat; obtain ⟨Ao13, co13, eo13⟩ := Kd.R_slice HO507.out; subst eo13))
   go_loopg [29] k (fun kq v29 w' => ∃ (x8_1 : List (S39)) (x29_1 : Int), v29 = .int .i64 x29_1 ∧ Aside0 (cohousinglaw28_FlowKnowledge.l0 kq l0 l1 l2 t500 x8_1 (y505.length : Int) x29_1 = some r) ∧ Aside0 (kq ≤ k) ∧ Aside0 (Kd.R k39 39 w' w.heap.size (fun _ => True) (.slice Ao13 y505.length co13) x8_1) ∧ Aside0 (Below w.heap.size w w'))
   case atStart => exact ⟨(y505), (0), (by first | rfl | (simp; done) | (simp [*]; done)), H', ⟨Nat.le_refl _⟩, ⟨by (with_reducible repeat (first | apply Kd.R_alloc | apply Kd.R_drewN | apply Kd.R_drew)); exact HO507.out⟩, ⟨by repeat (first | (with_reducible first | exact HB.out | apply below_alloc | apply pw_below_drewN | apply below_drew1) | exact HB.out)⟩⟩
   case round =>
    clear H'
    try clear c1
    try clear c2
    try clear p2
    try clear c6
    try clear c7
    try clear c10
    obtain ⟨x8_1, x29_1, rfl, HA, HK1, HO_8, HB⟩ := hrel
    have hl8_1 := (Kd.R_reads' HO_8.out).1
    rw [hl8_1] at HO_8
    (try simp only [hl8_1])
    cases gk with
    | zero => exact absurd HA.out (by simp [cohousinglaw28_FlowKnowledge.l0])
    | succ k1 =>
     have H := HA.out
     clear HA
     simp only [cohousinglaw28_FlowKnowledge.l0] at H
     by_cases c14 : x29_1 < (y505.length : Int)
     ·rw [if_pos c14] at H
      have c14b0 : decide (x29_1 < (y505.length : Int)) = true := decide_eq_true c14
      have c14b1 : decide (x29_1 < (x8_1.length : Int)) = true := decide_eq_true (by have := hl8_1; omega)
      clear c14
      by_cases c15 : x29_1 < (l2.length : Int)
      ·rw [if_pos c15] at H
       have c15b0 : decide (x29_1 < (l2.length : Int)) = true := decide_eq_true c15
       clear c15
       by_cases c16 : 0 ≤ x29_1
       ·rw [if_pos c16] at H
        have c16b0 : decide (0 ≤ x29_1) = true := decide_eq_true c16
        clear c16
        by_cases c17 : x29_1 < (x8_1.length : Int)
        ·rw [if_pos c17] at H
         have c17b0 : decide (x29_1 < (x8_1.length : Int)) = true := decide_eq_true c17
         clear c17
         obtain ⟨ji18, hji18⟩ : ∃ j_ : Int, (mx ((rd_T39 x8_1 x29_1).f0) ((rd_T39 l2 x29_1).f0)) = j_ := ⟨_, rfl⟩
         replace H : (if (ji18) ≤ (mn ((rd_T39 x8_1 x29_1).f1) ((rd_T39 l2 x29_1).f1)) then (cohousinglaw28_FlowKnowledge.l0 k1 l0 l1 l2 t500 (x8_1.set (x29_1 : Int).toNat (⟨ji18, mn ((rd_T39 x8_1 x29_1).f1) ((rd_T39 l2 x29_1).f1)⟩ : S39)) (y505.length : Int) (wrap64 (x29_1 + 1))) else (cohousinglaw28_FlowKnowledge.l0 k1 l0 l1 l2 t500 x8_1 (y505.length : Int) (wrap64 (x29_1 + 1)))) = some r := by first | (rw [hji18] at H; exact H) | (simp only [hji18] at H ⊢; exact H)
         have hji18_ : (if ((rd_T39 x8_1 x29_1).f0) < ((rd_T39 l2 x29_1).f0) then ((rd_T39 l2 x29_1).f0) else ((rd_T39 x8_1 x29_1).f0)) = ji18 := hji18
         obtain ⟨ji19, hji19⟩ : ∃ j_ : Int, (mn ((rd_T39 x8_1 x29_1).f1) ((rd_T39 l2 x29_1).f1)) = j_ := ⟨_, rfl⟩
         replace H : (if (ji18) ≤ (ji19) then (cohousinglaw28_FlowKnowledge.l0 k1 l0 l1 l2 t500 (x8_1.set (x29_1 : Int).toNat (⟨ji18, ji19⟩ : S39)) (y505.length : Int) (wrap64 (x29_1 + 1))) else (cohousinglaw28_FlowKnowledge.l0 k1 l0 l1 l2 t500 x8_1 (y505.length : Int) (wrap64 (x29_1 + 1)))) = some r := by first | (rw [hji19] at H; exact H) | (simp only [hji19] at H ⊢; exact H)
         have hji19_ : (if ((rd_T39 l2 x29_1).f1) < ((rd_T39 x8_1 x29_1).f1) then ((rd_T39 l2 x29_1).f1) else ((rd_T39 x8_1 x29_1).f1)) = ji19 := hji19
         by_cases c20 : (ji18) ≤ (ji19)
         ·rw [if_pos c20] at H
          have c20b0 : decide ((ji18) ≤ (ji19)) = true := decide_eq_true c20
          clear c20
          obtain ⟨y513, hy513⟩ : ∃ y_ : List (S39), y_ = (x8_1.set (x29_1 : Int).toNat (⟨ji18, ji19⟩ : S39)) := ⟨_, rfl⟩
          replace H : (cohousinglaw28_FlowKnowledge.l0 k1 l0 l1 l2 t500 y513 (y505.length : Int) (wrap64 (x29_1 + 1))) = some r := by first | (rw [hy513]; with_reducible exact H) | (have H2_ := (Option.bind_some _ _).symm.trans H; rw [hy513]; with_reducible exact H2_) | (have H2_ := (Option.bind_some _ _).symm.trans H; with_reducible exact H2_) | with_reducible exact H | (rw [hy513]; exact H) | exact H
          have Ny513 := Aside0.mk hy513
          clear hy513
          have H' := Aside0.mk H
          clear H
          try go_wp2
          have n0_ := Aside0.mk (Kd.R_drew HO_8.out)
          have n1_ := Aside0.mk (below_drew1 HB.out)
          clear HO_8
          clear HB
          have HO_8 := n0_
          have HB := n1_
          clear n0_ n1_
          have p508 : 0 ≤ (x29_1 : Int) := of_decide_eq_true (by first | (with_reducible assumption) | assumption)
          have q508 : x29_1 < (x8_1.length : Int) := of_decide_eq_true (by first | (with_reducible assumption) | assumption)
          obtain ⟨ad508, e508, hx508_0, hx508_1⟩ := at_T39 (Kd.R_reads' HO_8.out).2.2 x29_1 p508 q508
          cases e508
          replace p508 := eq_true p508
          replace q508 := eq_true q508
          have p509 : 0 ≤ (x29_1 : Int) := of_decide_eq_true (by first | (with_reducible assumption) | assumption)
          have q509 : x29_1 < (l2.length : Int) := of_decide_eq_true (by first | (with_reducible assumption) | assumption)
          obtain ⟨ad509, e509, hx509_0, hx509_1⟩ := at_T39 HR2.out x29_1 p509 q509
          have hw509_1 := hx509_1
          have hw509_0 := hx509_0
          cases e509
          replace hx509_0 := (HB.out.cell (World.block_lt_of_cell? w _ hx509_0)).trans hx509_0
          replace hx509_1 := (HB.out.cell (World.block_lt_of_cell? w _ hx509_1)).trans hx509_1
          replace p509 := eq_true p509
          replace q509 := eq_true q509
          have p510 : 0 ≤ (x29_1 : Int) := of_decide_eq_true (by first | (with_reducible assumption) | assumption)
          have q510 : x29_1 < (x8_1.length : Int) := of_decide_eq_true (by first | (with_reducible assumption) | assumption)
          obtain ⟨ad510, e510, hx510_0, hx510_1⟩ := at_T39 (Kd.R_reads' HO_8.out).2.2 x29_1 p510 q510
          obtain rfl : ad508 = ad510 := (by injection e510)
          replace p510 := eq_true p510
          replace q510 := eq_true q510
          have p511 : 0 ≤ (x29_1 : Int) := of_decide_eq_true (by first | (with_reducible assumption) | assumption)
          have q511 : x29_1 < (l2.length : Int) := of_decide_eq_true (by first | (with_reducible assumption) | assumption)
          obtain ⟨ad511, e511, hx511_0, hx511_1⟩ := at_T39 HR2.out x29_1 p511 q511
          have hw511_1 := hx511_1
          have hw511_0 := hx511_0
          obtain rfl : ad509 = ad511 := (by injection e511)
          replace hx511_0 := (HB.out.cell (World.block_lt_of_cell? w _ hx511_0)).trans hx511_0
          replace hx511_1 := (HB.out.cell (World.block_lt_of_cell? w _ hx511_1)).trans hx511_1
          replace p511 := eq_true p511
          replace q511 := eq_true q511
          refine start_ (n := 25) (S := fun w' => w'.cell? (ad508.add ((x29_1).toNat * 2)) = some (.int .i64 ((rd_T39 x8_1 x29_1).f0)) ∧ w'.cell? ⟨(ad508.add ((x29_1).toNat * 2)).block, (ad508.add ((x29_1).toNat * 2)).off + 1, none⟩ = some (.int .i64 ((rd_T39 x8_1 x29_1).f1)) ∧ w'.cell? (ad509.add ((x29_1).toNat * 2)) = some (.int .i64 ((rd_T39 l2 x29_1).f0)) ∧ w'.cell? ⟨(ad509.add ((x29_1).toNat * 2)).block, (ad509.add ((x29_1).toNat * 2)).off + 1, none⟩ = some (.int .i64 ((rd_T39 l2 x29_1).f1)) ∧ w'.cell? (ad508.add ((x29_1).toNat * 2)) = some (.int .i64 ((rd_T39 x8_1 x29_1).f0)) ∧ w'.cell? ⟨(ad508.add ((x29_1).toNat * 2)).block, (ad508.add ((x29_1).toNat * 2)).off + 1, none⟩ = some (.int .i64 ((rd_T39 x8_1 x29_1).f1)) ∧ w'.cell? (ad509.add ((x29_1).toNat * 2)) = some (.int .i64 ((rd_T39 l2 x29_1).f0)) ∧ w'.cell? ⟨(ad509.add ((x29_1).toNat * 2)).block, (ad509.add ((x29_1).toNat * 2)).off + 1, none⟩ = some (.int .i64 ((rd_T39 l2 x29_1).f1))) (ds := []) #[n_, n_, n_, n_, n_, n_, n_, n_, n_, n_, n_, n_, n_, n_, n_, n_, n_, n_, n_, n_, n_, n_, n_, n_, n_] (by kernel_rfl) rfl rfl ⟨hx508_0, hx508_1, ((HB.out.cell (World.block_lt_of_cell? w _ hw509_0)).trans hw509_0), ((HB.out.cell (World.block_lt_of_cell? w _ hw509_1)).trans hw509_1), hx510_0, hx510_1, ((HB.out.cell (World.block_lt_of_cell? w _ hw511_0)).trans hw511_0), ((HB.out.cell (World.block_lt_of_cell? w _ hw511_1)).trans hw511_1)⟩ (fun hHeld => ?_); refine with_tabW cohousinglaw28_FlowKnowledge.tab9 cohousinglaw28_FlowKnowledge.bits9 (fun HT_ HW_ => ?_)
          generalize wr.drew = w22 at HO_8 HB hx508_0 hx508_1 hx509_0 hx509_1 hx510_0 hx510_1 hx511_0 hx511_1 hHeld ⊢
          refine pure_ (i := 0) (N := some 36) (v := ?_) (a' := ?_) #[y_, n_, n_, n_, n_, n_, n_, n_, n_, n_, n_, n_, n_, n_, n_, n_, n_, n_, n_, n_, n_, n_, n_, n_, n_] rfl rfl (any_of HT_.out (by kernel_rfl)) (fun _ _ _ h => h) (Or.inl ⟨by rfl, ?_⟩) ?_ ?_
          rotate_left
          ·intro w'
           go_simp
           with_reducible rfl
          rotate_left
          ·simp only [Act.put, sI_, s0_, sS_, i64_w, i32_w]
           rfl
          refine pure_ (i := 1) (N := some 37) (v := ?_) (a' := ?_) #[y_, y_, n_, n_, n_, n_, n_, n_, n_, n_, n_, n_, n_, n_, n_, n_, n_, n_, n_, n_, n_, n_, n_, n_, n_] rfl rfl (any_of HT_.out (by kernel_rfl)) (fun _ _ _ h => h) (Or.inl ⟨by rfl, ?_⟩) ?_ ?_
          rotate_left
          ·intro w'
           go_simp
           with_reducible rfl
          rotate_left
          ·simp only [Act.put, sI_, s0_, sS_, i64_w, i32_w]
           rfl
          refine pure_ (i := 2) (N := some 38) (v := ?_) (a' := ?_) #[y_, y_, y_, n_, n_, n_, n_, n_, n_, n_, n_, n_, n_, n_, n_, n_, n_, n_, n_, n_, n_, n_, n_, n_, n_] rfl rfl (any_of HT_.out (by kernel_rfl)) (fun _ _ _ h => h) (Or.inl ⟨by rfl, ?_⟩) ?_ ?_
          rotate_left
          ·intro w'
           go_simp
           with_reducible rfl
          rotate_left
          ·simp only [Act.put, sI_, s0_, sS_, i64_w, i32_w]
           rfl
          refine pure_ (i := 3) (N := some 39) (v := ?_) (a' := ?_) #[y_, y_, y_, y_, n_, n_, n_, n_, n_, n_, n_, n_, n_, n_, n_, n_, n_, n_, n_, n_, n_, n_, n_, n_, n_] rfl rfl (any_of HT_.out (by kernel_rfl)) (fun _ _ _ h => h) (Or.inl ⟨by rfl, ?_⟩) ?_ ?_
          rotate_left
          ·intro w'
           go_simp
           with_reducible rfl
          rotate_left
          ·simp only [Act.put, sI_, s0_, sS_, i64_w, i32_w]
           rfl
          refine pure_ (i := 5) (N := some 41) (v := ?_) (a' := ?_) #[y_, y_, y_, y_, n_, y_, n_, n_, n_, n_, n_, n_, n_, n_, n_, n_, n_, n_, n_, n_, n_, n_, n_, n_, n_] rfl rfl (any_of HT_.out (by kernel_rfl)) (fun _ _ _ h => h) (Or.inl ⟨by rfl, ?_⟩) ?_ ?_
          rotate_left
          ·intro w'
           go_simp
           with_reducible rfl
          rotate_left
          ·simp only [Act.put, sI_, s0_, sS_, i64_w, i32_w]
           rfl
          refine pure_ (i := 6) (N := some 42) (v := ?_) (a' := ?_) #[y_, y_, y_, y_, n_, y_, y_, n_, n_, n_, n_, n_, n_, n_, n_, n_, n_, n_, n_, n_, n_, n_, n_, n_, n_] rfl rfl (any_of HT_.out (by kernel_rfl)) (fun _ _ _ h => h) (Or.inl ⟨by rfl, ?_⟩) ?_ ?_
          rotate_left
          ·intro w'
           go_simp
           with_reducible rfl
          rotate_left
          ·simp only [Act.put, sI_, s0_, sS_, i64_w, i32_w]
           rfl
          refine pure_ (i := 7) (N := some 43) (v := ?_) (a' := ?_) #[y_, y_, y_, y_, n_, y_, y_, y_, n_, n_, n_, n_, n_, n_, n_, n_, n_, n_, n_, n_, n_, n_, n_, n_, n_] rfl rfl (any_of HT_.out (by kernel_rfl)) (fun _ _ _ h => h) (Or.inl ⟨by rfl, ?_⟩) ?_ ?_
          rotate_left
          ·intro w'
           go_simp
           with_reducible rfl
          rotate_left
          ·simp only [Act.put, sI_, s0_, sS_, i64_w, i32_w]
           rfl
          refine pure_ (i := 8) (N := some 44) (v := ?_) (a' := ?_) #[y_, y_, y_, y_, n_, y_, y_, y_, y_, n_, n_, n_, n_, n_, n_, n_, n_, n_, n_, n_, n_, n_, n_, n_, n_] rfl rfl (any_of HT_.out (by kernel_rfl)) (fun _ _ _ h => h) (Or.inl ⟨by rfl, ?_⟩) ?_ ?_
          rotate_left
          ·intro w'
           go_simp
           with_reducible rfl
          rotate_left
          ·simp only [Act.put, sI_, s0_, sS_, i64_w, i32_w]
           rfl
          refine pure_ (i := 11) (N := some 47) (v := ?_) (a' := ?_) #[y_, y_, y_, y_, n_, y_, y_, y_, y_, n_, n_, y_, n_, n_, n_, n_, n_, n_, n_, n_, n_, n_, n_, n_, n_] rfl rfl (any_of HT_.out (by kernel_rfl)) (fun _ _ _ h => h) (Or.inl ⟨by rfl, ?_⟩) ?_ ?_
          rotate_left
          ·intro w'
           go_simp
           with_reducible rfl
          rotate_left
          ·simp only [Act.put, sI_, s0_, sS_, i64_w, i32_w]
           rfl
          refine pure_ (i := 12) (N := some 48) (v := ?_) (a' := ?_) #[y_, y_, y_, y_, n_, y_, y_, y_, y_, n_, n_, y_, y_, n_, n_, n_, n_, n_, n_, n_, n_, n_, n_, n_, n_] rfl rfl (any_of HT_.out (by kernel_rfl)) (fun _ _ _ h => h) (Or.inl ⟨by rfl, ?_⟩) ?_ ?_
          rotate_left
          ·intro w'
           go_simp
           with_reducible rfl
          rotate_left
          ·simp only [Act.put, sI_, s0_, sS_, i64_w, i32_w]
           rfl
          refine pure_ (i := 13) (N := some 49) (v := ?_) (a' := ?_) #[y_, y_, y_, y_, n_, y_, y_, y_, y_, n_, n_, y_, y_, y_, n_, n_, n_, n_, n_, n_, n_, n_, n_, n_, n_] rfl rfl (any_of HT_.out (by kernel_rfl)) (fun _ _ _ h => h) (Or.inl ⟨by rfl, ?_⟩) ?_ ?_
          rotate_left
          ·intro w'
           go_simp
           with_reducible rfl
          rotate_left
          ·simp only [Act.put, sI_, s0_, sS_, i64_w, i32_w]
           rfl
          refine pure_ (i := 14) (N := some 50) (v := ?_) (a' := ?_) #[y_, y_, y_, y_, n_, y_, y_, y_, y_, n_, n_, y_, y_, y_, y_, n_, n_, n_, n_, n_, n_, n_, n_, n_, n_] rfl rfl (any_of HT_.out (by kernel_rfl)) (fun _ _ _ h => h) (Or.inl ⟨by rfl, ?_⟩) ?_ ?_
          rotate_left
          ·intro w'
           go_simp
           with_reducible rfl
          rotate_left
          ·simp only [Act.put, sI_, s0_, sS_, i64_w, i32_w]
           rfl
          refine pure_ (i := 16) (N := some 52) (v := ?_) (a' := ?_) #[y_, y_, y_, y_, n_, y_, y_, y_, y_, n_, n_, y_, y_, y_, y_, n_, y_, n_, n_, n_, n_, n_, n_, n_, n_] rfl rfl (any_of HT_.out (by kernel_rfl)) (fun _ _ _ h => h) (Or.inl ⟨by rfl, ?_⟩) ?_ ?_
          rotate_left
          ·intro w'
           go_simp
           with_reducible rfl
          rotate_left
          ·simp only [Act.put, sI_, s0_, sS_, i64_w, i32_w]
           rfl
          refine pure_ (i := 17) (N := some 53) (v := ?_) (a' := ?_) #[y_, y_, y_, y_, n_, y_, y_, y_, y_, n_, n_, y_, y_, y_, y_, n_, y_, y_, n_, n_, n_, n_, n_, n_, n_] rfl rfl (any_of HT_.out (by kernel_rfl)) (fun _ _ _ h => h) (Or.inl ⟨by rfl, ?_⟩) ?_ ?_
          rotate_left
          ·intro w'
           go_simp
           with_reducible rfl
          rotate_left
          ·simp only [Act.put, sI_, s0_, sS_, i64_w, i32_w]
           rfl
          refine pure_ (i := 18) (N := some 54) (v := ?_) (a' := ?_) #[y_, y_, y_, y_, n_, y_, y_, y_, y_, n_, n_, y_, y_, y_, y_, n_, y_, y_, y_, n_, n_, n_, n_, n_, n_] rfl rfl (any_of HT_.out (by kernel_rfl)) (fun _ _ _ h => h) (Or.inl ⟨by rfl, ?_⟩) ?_ ?_
          rotate_left
          ·intro w'
           go_simp
           with_reducible rfl
          rotate_left
          ·simp only [Act.put, sI_, s0_, sS_, i64_w, i32_w]
           rfl
          refine pure_ (i := 19) (N := some 55) (v := ?_) (a' := ?_) #[y_, y_, y_, y_, n_, y_, y_, y_, y_, n_, n_, y_, y_, y_, y_, n_, y_, y_, y_, y_, n_, n_, n_, n_, n_] rfl rfl (any_of HT_.out (by kernel_rfl)) (fun _ _ _ h => h) (Or.inl ⟨by rfl, ?_⟩) ?_ ?_
          rotate_left
          ·intro w'
           go_simp
           with_reducible rfl
          rotate_left
          ·simp only [Act.put, sI_, s0_, sS_, i64_w, i32_w]
           rfl
          refine take_ (i := 4) (N := some 40) (v := ?_) (a' := ?_) #[y_, y_, y_, y_, y_, y_, y_, y_, y_, n_, n_, y_, y_, y_, y_, n_, y_, y_, y_, y_, n_, n_, n_, n_, n_] rfl rfl (take_ofW HT_.out HW_.out (by kernel_rfl)) (fun _ _ _ h => h) (Or.inl ⟨by rfl, ?_⟩) hHeld ?_ ?_
          rotate_left
          ·rintro w' ⟨s0, s1, s2, s3, s4, s5, s6, s7⟩
           go_simp
           with_reducible rfl
          rotate_left
          ·simp only [Act.put, sI_, s0_, sS_, i64_w, i32_w]
           rfl
          refine take_ (i := 9) (N := some 45) (v := ?_) (a' := ?_) #[y_, y_, y_, y_, y_, y_, y_, y_, y_, y_, n_, y_, y_, y_, y_, n_, y_, y_, y_, y_, n_, n_, n_, n_, n_] rfl rfl (take_ofW HT_.out HW_.out (by kernel_rfl)) (fun _ _ _ h => h) (Or.inl ⟨by rfl, ?_⟩) hHeld ?_ ?_
          rotate_left
          ·rintro w' ⟨s0, s1, s2, s3, s4, s5, s6, s7⟩
           go_simp
           with_reducible rfl
          rotate_left
          ·simp only [Act.put, sI_, s0_, sS_, i64_w, i32_w]
           rfl
          refine pure_ (i := 10) (N := some 46) (v := ?_) (a' := ?_) #[y_, y_, y_, y_, y_, y_, y_, y_, y_, y_, y_, y_, y_, y_, y_, n_, y_, y_, y_, y_, n_, n_, n_, n_, n_] rfl rfl (any_of HT_.out (by kernel_rfl)) (fun _ _ _ h => h) (Or.inl ⟨by rfl, ?_⟩) ?_ ?_
          rotate_left
          ·intro w'
           go_simp
           with_reducible rfl
          rotate_left
          ·simp only [Act.put, sI_, s0_, sS_, i64_w, i32_w]
           rfl
          refine take_ (i := 15) (N := some 51) (v := ?_) (a' := ?_) #[y_, y_, y_, y_, y_, y_, y_, y_, y_, y_, y_, y_, y_, y_, y_, y_, y_, y_, y_, y_, n_, n_, n_, n_, n_] rfl rfl (take_ofW HT_.out HW_.out (by kernel_rfl)) (fun _ _ _ h => h) (Or.inl ⟨by rfl, ?_⟩) hHeld ?_ ?_
          rotate_left
          ·rintro w' ⟨s0, s1, s2, s3, s4, s5, s6, s7⟩
           go_simp
           with_reducible rfl
          rotate_left
          ·simp only [Act.put, sI_, s0_, sS_, i64_w, i32_w]
           rfl
          refine take_ (i := 20) (N := some 56) (v := ?_) (a' := ?_) #[y_, y_, y_, y_, y_, y_, y_, y_, y_, y_, y_, y_, y_, y_, y_, y_, y_, y_, y_, y_, y_, n_, n_, n_, n_] rfl rfl (take_ofW HT_.out HW_.out (by kernel_rfl)) (fun _ _ _ h => h) (Or.inl ⟨by rfl, ?_⟩) hHeld ?_ ?_
          rotate_left
          ·rintro w' ⟨s0, s1, s2, s3, s4, s5, s6, s7⟩
           go_simp
           with_reducible rfl
          rotate_left
          ·simp only [Act.put, sI_, s0_, sS_, i64_w, i32_w]
           rfl
          refine pure_ (i := 21) (N := some 57) (v := ?_) (a' := ?_) #[y_, y_, y_, y_, y_, y_, y_, y_, y_, y_, y_, y_, y_, y_, y_, y_, y_, y_, y_, y_, y_, y_, n_, n_, n_] rfl rfl (any_of HT_.out (by kernel_rfl)) (fun _ _ _ h => h) (Or.inl ⟨by rfl, ?_⟩) ?_ ?_
          rotate_left
          ·intro w'
           go_simp
           with_reducible rfl
          rotate_left
          ·simp only [Act.put, sI_, s0_, sS_, i64_w, i32_w]
           rfl
          refine pure_ (i := 22) (N := some 58) (v := ?_) (a' := ?_) #[y_, y_, y_, y_, y_, y_, y_, y_, y_, y_, y_, y_, y_, y_, y_, y_, y_, y_, y_, y_, y_, y_, y_, n_, n_] rfl rfl (any_of HT_.out (by kernel_rfl)) (fun _ _ _ h => h) (Or.inl ⟨by rfl, ?_⟩) ?_ ?_
          rotate_left
          ·intro w'
           go_simp
           with_reducible rfl
          rotate_left
          ·simp only [Act.put, sI_, s0_, sS_, i64_w, i32_w]
           rfl
          refine one_ (i := 23) (N := some 10) #[y_, y_, y_, y_, y_, y_, y_, y_, y_, y_, y_, y_, y_, y_, y_, y_, y_, y_, y_, y_, y_, y_, y_, y_, n_] rfl rfl (one_of HT_.out (by kernel_rfl)) (by decide) (fun K hK => ?_)
          refine box_step ?hg (N := 10) ?hd (cs := #[.int .i64 0, .int .i64 0]) (t := 39) ?hr ?_; (case hd => rfl); (case hg => rfl); (case hr => first | (go_simp; done) | (go_simp; rfl))
          intro gb512 hg w23 hbox hb
          have HS0_ := (hb.cell (World.block_lt_of_cell? _ _ (hHeld.1))).trans (hHeld.1)
          have HS1_ := (hb.cell (World.block_lt_of_cell? _ _ (hHeld.2.1))).trans (hHeld.2.1)
          have HS4_ := (hb.cell (World.block_lt_of_cell? _ _ (hHeld.2.2.2.2.1))).trans (hHeld.2.2.2.2.1)
          have HS5_ := (hb.cell (World.block_lt_of_cell? _ _ (hHeld.2.2.2.2.2.1))).trans (hHeld.2.2.2.2.2.1)
          have n0_ := Aside0.mk (Kd.R_below (Kd.R_elderB (by (with_reducible repeat (first | apply Kd.R_alloc | apply Kd.R_drewN | apply Kd.R_drew)); exact HO_8.out) gb512 (Nat.le_of_eq hg.symm)) hb)
          have n1_ := Aside0.mk (below_step (by repeat (first | (with_reducible first | exact HB.out | apply below_alloc | apply pw_below_drewN | apply below_drew1) | exact HB.out)) hb)
          have n2_ := Aside0.mk (hbox)
          have n3_ := Aside0.mk ((by rw [hg]; exact (below_size (by repeat (first | (with_reducible first | exact HB.out | apply below_alloc | apply pw_below_drewN | apply below_drew1) | exact HB.out))) : w.heap.size ≤ gb512))
          have n4_ := Aside0.mk ((by rw [hg]; exact (below_size (by repeat (first | (with_reducible first | exact HB.out | apply below_alloc | apply pw_below_drewN | apply below_drew1) | exact HB.out))) : w.heap.size ≤ gb512))
          clear HO_8
          clear HB
          have HO_8 := n0_
          have HB := n1_
          have BK512 := n2_
          have GW512 := n3_
          have GE512 := n4_
          clear n0_ n1_ n2_ n3_ n4_
          clear hb hbox hg
          refine hK.out _ _ ⟨HS0_, HS1_, ((HB.out.cell (World.block_lt_of_cell? w _ hw509_0)).trans hw509_0), ((HB.out.cell (World.block_lt_of_cell? w _ hw509_1)).trans hw509_1), HS4_, HS5_, ((HB.out.cell (World.block_lt_of_cell? w _ hw511_0)).trans hw511_0), ((HB.out.cell (World.block_lt_of_cell? w _ hw511_1)).trans hw511_1)⟩ (fun hHeld => ?_)
          clear hK K
          refine norm_ (a' := ?_) ?_ ?_
          rotate_left
          ·show Act.put _ (some 10) _ = _
           simp only [Act.put, sI_, s0_, sS_, i64_w, i32_w]
           rfl
          refine one_ (i := 24) (N := none) #[y_, y_, y_, y_, y_, y_, y_, y_, y_, y_, y_, y_, y_, y_, y_, y_, y_, y_, y_, y_, y_, y_, y_, y_, y_] rfl rfl (one_of HT_.out (by kernel_rfl)) (by decide) (fun K hK => ?_)
          have hs24 : w23.cell? ⟨gb512, 0, none⟩ = some (.int .i64 0) := (blk_cell BK512.out 0).trans rfl
          have hfs24 := blk_frozen BK512.out 0
          have hs25 : w23.cell? ⟨gb512, 1, none⟩ = some (.int .i64 0) := (blk_cell BK512.out 1).trans rfl
          have hfs25 := blk_frozen BK512.out 1
          refine skip_ (w1 := ?_) (by rfl) rfl ?_ ?_
          rotate_left
          ·go_simp
           rfl
          refine hK.out _ _ ⟨((cell_far (p := ⟨gb512, _, none⟩) (by first | exact Kd.own_blk (Kd.R_away HO_8.out (fun _ hk => hk.2)) | (rw [add_block]; exact Kd.own_blk (Kd.R_away HO_8.out (fun _ hk => hk.2))) | (show (Addr.add _ _).block ≠ _; rw [add_block]; exact Kd.own_blk (Kd.R_away HO_8.out (fun _ hk => hk.2))) | (dsimp only; exact Kd.own_blk (Kd.R_away HO_8.out (fun _ hk => hk.2)))) _).trans (((cell_far (p := ⟨gb512, _, none⟩) (by first | exact Kd.own_blk (Kd.R_away HO_8.out (fun _ hk => hk.2)) | (rw [add_block]; exact Kd.own_blk (Kd.R_away HO_8.out (fun _ hk => hk.2))) | (show (Addr.add _ _).block ≠ _; rw [add_block]; exact Kd.own_blk (Kd.R_away HO_8.out (fun _ hk => hk.2))) | (dsimp only; exact Kd.own_blk (Kd.R_away HO_8.out (fun _ hk => hk.2)))) _).trans (hHeld.1)))), ((cell_far (p := ⟨gb512, _, none⟩) (by first | exact Kd.own_blk (Kd.R_away HO_8.out (fun _ hk => hk.2)) | (rw [add_block]; exact Kd.own_blk (Kd.R_away HO_8.out (fun _ hk => hk.2))) | (show (Addr.add _ _).block ≠ _; rw [add_block]; exact Kd.own_blk (Kd.R_away HO_8.out (fun _ hk => hk.2))) | (dsimp only; exact Kd.own_blk (Kd.R_away HO_8.out (fun _ hk => hk.2)))) _).trans (((cell_far (p := ⟨gb512, _, none⟩) (by first | exact Kd.own_blk (Kd.R_away HO_8.out (fun _ hk => hk.2)) | (rw [add_block]; exact Kd.own_blk (Kd.R_away HO_8.out (fun _ hk => hk.2))) | (show (Addr.add _ _).block ≠ _; rw [add_block]; exact Kd.own_blk (Kd.R_away HO_8.out (fun _ hk => hk.2))) | (dsimp only; exact Kd.own_blk (Kd.R_away HO_8.out (fun _ hk => hk.2)))) _).trans (hHeld.2.1)))), ((cell_far (p := ⟨gb512, _, none⟩) (by first | exact Nat.ne_of_lt (Nat.lt_of_lt_of_le (by have := World.block_lt_of_cell? _ _ hw509_0; first | rwa [add_block] at this | exact this) GW512.out) | (rw [add_block]; exact Nat.ne_of_lt (Nat.lt_of_lt_of_le (by have := World.block_lt_of_cell? _ _ hw509_0; first | rwa [add_block] at this | exact this) GW512.out)) | (show (Addr.add _ _).block ≠ _; rw [add_block]; exact Nat.ne_of_lt (Nat.lt_of_lt_of_le (by have := World.block_lt_of_cell? _ _ hw509_0; first | rwa [add_block] at this | exact this) GW512.out)) | (dsimp only; exact Nat.ne_of_lt (Nat.lt_of_lt_of_le (by have := World.block_lt_of_cell? _ _ hw509_0; first | rwa [add_block] at this | exact this) GW512.out))) _).trans (((cell_far (p := ⟨gb512, _, none⟩) (by first | exact Nat.ne_of_lt (Nat.lt_of_lt_of_le (by have := World.block_lt_of_cell? _ _ hw509_0; first | rwa [add_block] at this | exact this) GW512.out) | (rw [add_block]; exact Nat.ne_of_lt (Nat.lt_of_lt_of_le (by have := World.block_lt_of_cell? _ _ hw509_0; first | rwa [add_block] at this | exact this) GW512.out)) | (show (Addr.add _ _).block ≠ _; rw [add_block]; exact Nat.ne_of_lt (Nat.lt_of_lt_of_le (by have := World.block_lt_of_cell? _ _ hw509_0; first | rwa [add_block] at this | exact this) GW512.out)) | (dsimp only; exact Nat.ne_of_lt (Nat.lt_of_lt_of_le (by have := World.block_lt_of_cell? _ _ hw509_0; first | rwa [add_block] at this | exact this) GW512.out))) _).trans (hHeld.2.2.1)))), ((cell_far (p := ⟨gb512, _, none⟩) (by first | exact Nat.ne_of_lt (Nat.lt_of_lt_of_le (by have := World.block_lt_of_cell? _ _ hw509_1; first | rwa [add_block] at this | exact this) GW512.out) | (rw [add_block]; exact Nat.ne_of_lt (Nat.lt_of_lt_of_le (by have := World.block_lt_of_cell? _ _ hw509_1; first | rwa [add_block] at this | exact this) GW512.out)) | (show (Addr.add _ _).block ≠ _; rw [add_block]; exact Nat.ne_of_lt (Nat.lt_of_lt_of_le (by have := World.block_lt_of_cell? _ _ hw509_1; first | rwa [add_block] at this | exact this) GW512.out)) | (dsimp only; exact Nat.ne_of_lt (Nat.lt_of_lt_of_le (by have := World.block_lt_of_cell? _ _ hw509_1; first | rwa [add_block] at this | exact this) GW512.out))) _).trans (((cell_far (p := ⟨gb512, _, none⟩) (by first | exact Nat.ne_of_lt (Nat.lt_of_lt_of_le (by have := World.block_lt_of_cell? _ _ hw509_1; first | rwa [add_block] at this | exact this) GW512.out) | (rw [add_block]; exact Nat.ne_of_lt (Nat.lt_of_lt_of_le (by have := World.block_lt_of_cell? _ _ hw509_1; first | rwa [add_block] at this | exact this) GW512.out)) | (show (Addr.add _ _).block ≠ _; rw [add_block]; exact Nat.ne_of_lt (Nat.lt_of_lt_of_le (by have := World.block_lt_of_cell? _ _ hw509_1; first | rwa [add_block] at this | exact this) GW512.out)) | (dsimp only; exact Nat.ne_of_lt (Nat.lt_of_lt_of_le (by have := World.block_lt_of_cell? _ _ hw509_1; first | rwa [add_block] at this | exact this) GW512.out))) _).trans (hHeld.2.2.2.1)))), ((cell_far (p := ⟨gb512, _, none⟩) (by first | exact Kd.own_blk (Kd.R_away HO_8.out (fun _ hk => hk.2)) | (rw [add_block]; exact Kd.own_blk (Kd.R_away HO_8.out (fun _ hk => hk.2))) | (show (Addr.add _ _).block ≠ _; rw [add_block]; exact Kd.own_blk (Kd.R_away HO_8.out (fun _ hk => hk.2))) | (dsimp only; exact Kd.own_blk (Kd.R_away HO_8.out (fun _ hk => hk.2)))) _).trans (((cell_far (p := ⟨gb512, _, none⟩) (by first | exact Kd.own_blk (Kd.R_away HO_8.out (fun _ hk => hk.2)) | (rw [add_block]; exact Kd.own_blk (Kd.R_away HO_8.out (fun _ hk => hk.2))) | (show (Addr.add _ _).block ≠ _; rw [add_block]; exact Kd.own_blk (Kd.R_away HO_8.out (fun _ hk => hk.2))) | (dsimp only; exact Kd.own_blk (Kd.R_away HO_8.out (fun _ hk => hk.2)))) _).trans (hHeld.2.2.2.2.1)))), ((cell_far (p := ⟨gb512, _, none⟩) (by first | exact Kd.own_blk (Kd.R_away HO_8.out (fun _ hk => hk.2)) | (rw [add_block]; exact Kd.own_blk (Kd.R_away HO_8.out (fun _ hk => hk.2))) | (show (Addr.add _ _).block ≠ _; rw [add_block]; exact Kd.own_blk (Kd.R_away HO_8.out (fun _ hk => hk.2))) | (dsimp only; exact Kd.own_blk (Kd.R_away HO_8.out (fun _ hk => hk.2)))) _).trans (((cell_far (p := ⟨gb512, _, none⟩) (by first | exact Kd.own_blk (Kd.R_away HO_8.out (fun _ hk => hk.2)) | (rw [add_block]; exact Kd.own_blk (Kd.R_away HO_8.out (fun _ hk => hk.2))) | (show (Addr.add _ _).block ≠ _; rw [add_block]; exact Kd.own_blk (Kd.R_away HO_8.out (fun _ hk => hk.2))) | (dsimp only; exact Kd.own_blk (Kd.R_away HO_8.out (fun _ hk => hk.2)))) _).trans (hHeld.2.2.2.2.2.1)))), ((cell_far (p := ⟨gb512, _, none⟩) (by first | exact Nat.ne_of_lt (Nat.lt_of_lt_of_le (by have := World.block_lt_of_cell? _ _ hw511_0; first | rwa [add_block] at this | exact this) GW512.out) | (rw [add_block]; exact Nat.ne_of_lt (Nat.lt_of_lt_of_le (by have := World.block_lt_of_cell? _ _ hw511_0; first | rwa [add_block] at this | exact this) GW512.out)) | (show (Addr.add _ _).block ≠ _; rw [add_block]; exact Nat.ne_of_lt (Nat.lt_of_lt_of_le (by have := World.block_lt_of_cell? _ _ hw511_0; first | rwa [add_block] at this | exact this) GW512.out)) | (dsimp only; exact Nat.ne_of_lt (Nat.lt_of_lt_of_le (by have := World.block_lt_of_cell? _ _ hw511_0; first | rwa [add_block] at this | exact this) GW512.out))) _).trans (((cell_far (p := ⟨gb512, _, none⟩) (by first | exact Nat.ne_of_lt (Nat.lt_of_lt_of_le (by have := World.block_lt_of_cell? _ _ hw511_0; first | rwa [add_block] at this | exact this) GW512.out) | (rw [add_block]; exact Nat.ne_of_lt (Nat.lt_of_lt_of_le (by have := World.block_lt_of_cell? _ _ hw511_0; first | rwa [add_block] at this | exact this) GW512.out)) | (show (Addr.add _ _).block ≠ _; rw [add_block]; exact Nat.ne_of_lt (Nat.lt_of_lt_of_le (by have := World.block_lt_of_cell? _ _ hw511_0; first | rwa [add_block] at this | exact this) GW512.out)) | (dsimp only; exact Nat.ne_of_lt (Nat.lt_of_lt_of_le (by have := World.block_lt_of_cell? _ _ hw511_0; first | rwa [add_block] at this | exact this) GW512.out))) _).trans (hHeld.2.2.2.2.2.2.1)))), ((cell_far (p := ⟨gb512, _, none⟩) (by first | exact Nat.ne_of_lt (Nat.lt_of_lt_of_le (by have := World.block_lt_of_cell? _ _ hw511_1; first | rwa [add_block] at this | exact this) GW512.out) | (rw [add_block]; exact Nat.ne_of_lt (Nat.lt_of_lt_of_le (by have := World.block_lt_of_cell? _ _ hw511_1; first | rwa [add_block] at this | exact this) GW512.out)) | (show (Addr.add _ _).block ≠ _; rw [add_block]; exact Nat.ne_of_lt (Nat.lt_of_lt_of_le (by have := World.block_lt_of_cell? _ _ hw511_1; first | rwa [add_block] at this | exact this) GW512.out)) | (dsimp only; exact Nat.ne_of_lt (Nat.lt_of_lt_of_le (by have := World.block_lt_of_cell? _ _ hw511_1; first | rwa [add_block] at this | exact this) GW512.out))) _).trans (((cell_far (p := ⟨gb512, _, none⟩) (by first | exact Nat.ne_of_lt (Nat.lt_of_lt_of_le (by have := World.block_lt_of_cell? _ _ hw511_1; first | rwa [add_block] at this | exact this) GW512.out) | (rw [add_block]; exact Nat.ne_of_lt (Nat.lt_of_lt_of_le (by have := World.block_lt_of_cell? _ _ hw511_1; first | rwa [add_block] at this | exact this) GW512.out)) | (show (Addr.add _ _).block ≠ _; rw [add_block]; exact Nat.ne_of_lt (Nat.lt_of_lt_of_le (by have := World.block_lt_of_cell? _ _ hw511_1; first | rwa [add_block] at this | exact this) GW512.out)) | (dsimp only; exact Nat.ne_of_lt (Nat.lt_of_lt_of_le (by have := World.block_lt_of_cell? _ _ hw511_1; first | rwa [add_block] at this | exact this) GW512.out))) _).trans (hHeld.2.2.2.2.2.2.2))))⟩ (fun hHeld => ?_)
          clear hK K
          refine done_ (done_of HT_.out (by kernel_rfl)) ?_
          have n0_ : Aside0 (Kd.R k39 39 ((w23.setCell ⟨gb512, 0, none⟩ (.int .i64 ji18)).setCell ⟨gb512, 1, none⟩ (.int .i64 ji19)) w.heap.size (fun k_ => k_ ≠ gb512) (.slice (some ad508) x8_1.length co13) x8_1) := ⟨by (with_reducible repeat (first | apply Kd.R_alloc | apply Kd.R_drewN | apply Kd.R_drew)); exact Kd.R_mono (Kd.R_far (p := ⟨gb512, 1, none⟩) (Kd.R_far (p := ⟨gb512, 0, none⟩) (Kd.R_mono HO_8.out (fun k_ hk => (⟨hk, hk.2⟩ : _ ∧ k_ ≠ gb512))) (fun _ hk => hk.2) (.int .i64 ji18)) (fun _ hk => hk.2) (.int .i64 ji19)) (fun _ hk => hk.1.2)⟩
          have n1_ : Aside0 (((w23.setCell ⟨gb512, 0, none⟩ (.int .i64 ji18)).setCell ⟨gb512, 1, none⟩ (.int .i64 ji19)).heap[gb512]? = some (.cells #[.int .i64 ji18, .int .i64 ji19] 39 (0, 0))) := ⟨by (with_reducible repeat (first | refine blk_drewN ?_ _ | refine blk_drew ?_ | refine blk_alloc ?_ _)); refine blk_put (cs := #[.int .i64 ji18, .int .i64 0]) ?_ 1 _ rfl; (with_reducible repeat (first | refine blk_drewN ?_ _ | refine blk_drew ?_ | refine blk_alloc ?_ _)); refine blk_put (cs := #[.int .i64 0, .int .i64 0]) ?_ 0 _ rfl; (with_reducible repeat (first | refine blk_drewN ?_ _ | refine blk_drew ?_ | refine blk_alloc ?_ _)); exact BK512.out⟩
          have n2_ : Aside0 (Below w.heap.size w ((w23.setCell ⟨gb512, 0, none⟩ (.int .i64 ji18)).setCell ⟨gb512, 1, none⟩ (.int .i64 ji19))) := ⟨by repeat (first | (with_reducible first | exact HB.out | apply below_alloc | apply pw_below_drewN | apply below_drew1 | refine below_set ?_ GE512.out) | exact HB.out)⟩
          (try clear HO_8)
          (try clear BK512)
          (try clear HB)
          generalize ((w23.setCell ⟨gb512, 0, none⟩ (.int .i64 ji18)).setCell ⟨gb512, 1, none⟩ (.int .i64 ji19)) = w26 at n0_ n1_ n2_ ⊢
          have HO_8 := n0_
          have BK512 := n1_
          have HB := n2_
          clear n0_ n1_ n2_
          have hcz27_0 : w26.cell? ⟨gb512, 0, none⟩ = some (.int .i64 ji18) := (blk_cell BK512.out 0).trans rfl
          have hcz27_1 : w26.cell? ⟨gb512, 1, none⟩ = some (.int .i64 ji19) := (blk_cell BK512.out 1).trans rfl
          have hfz27_0 := blk_frozen BK512.out 0
          have hfz27_1 := blk_frozen BK512.out 1
          have p21 : 0 ≤ (x29_1 : Int) := of_decide_eq_true (by first | (with_reducible assumption) | assumption)
          have q21 : (x29_1 : Int) < ((x8_1.length : Int) : Int) := of_decide_eq_true (by first | (with_reducible assumption) | assumption)
          obtain ⟨go21, co21, eo21, gb21, gl21, cl21, HG21⟩ := Kd.R_form HO_8.out (by omega)
          (first | cases eo21 | (injection eo21 with ea_ en_ ec_; (first | subst ea_ | (injection ea_ with ea_; subst ea_)); subst ec_; clear en_))
          have GB21 := Aside0.mk gb21
          have GG21 := Aside0.mk HG21
          clear gb21 gl21 HG21
          (first | simp only [add_plain] at hx508_0 | skip)
          (first | simp only [add_plain] at hx508_1 | skip)
          (first | simp only [add_plain] at hx510_0 | skip)
          (first | simp only [add_plain] at hx510_1 | skip)
          obtain ⟨ce21, hcl21, hM21, hcc21, hfr21⟩ := Kd.R_elem HO_8.out z39 (x29_1 : Int) p21 q21
          obtain rfl := k39_openM hM21
          have hx21_0 : w26.cell? ⟨go21, (x29_1 : Int).toNat * 2, none⟩ = some (.int .i64 ((rd_T39 x8_1 x29_1).f0)) := hcc21 0 _ rfl
          have hx21_1 : w26.cell? ⟨go21, (x29_1 : Int).toNat * 2 + 1, none⟩ = some (.int .i64 ((rd_T39 x8_1 x29_1).f1)) := hcc21 1 _ rfl
          have hf21_0 : w26.frozen? ⟨go21, (x29_1 : Int).toNat * 2, none⟩ = false := hfr21 0
          have hf21_1 : w26.frozen? ⟨go21, (x29_1 : Int).toNat * 2 + 1, none⟩ = false := hfr21 1
          clear hcl21 hcc21 hfr21 hM21
          replace p21 := eq_true p21
          replace q21 := eq_true q21
          have HX28 := Aside0.mk (show Kd.R k39 39 w26 w.heap.size (fun k_ => k_ ≠ gb512) (.slice (some ⟨go21, 0, none⟩) x8_1.length co13) x8_1 from (by (with_reducible repeat (first | apply Kd.R_alloc | apply Kd.R_drewN | apply Kd.R_drew)); exact HO_8.out))
          obtain ⟨ce28, hcl28, hM28, hcc28, hfr28⟩ := Kd.R_elem HX28.out z39 (x29_1 : Int) (of_decide_eq_true (by first | (with_reducible assumption) | assumption)) (by have h_ : (x29_1 : Int) < ((x8_1.length : Int) : Int) := of_decide_eq_true (by first | (with_reducible assumption) | assumption); first | exact h_ | (have e_ := (Kd.R_reads' HO_8.out).1; omega) | simpa using h_)
          obtain rfl := k39_openM hM28
          have HP28 := Kd.R_seg HX28.out (x29_1 : Int) (of_decide_eq_true (by first | (with_reducible assumption) | assumption)) (by have h_ : (x29_1 : Int) < ((x8_1.length : Int) : Int) := of_decide_eq_true (by first | (with_reducible assumption) | assumption); first | exact h_ | (have e_ := (Kd.R_reads' HO_8.out).1; omega) | simpa using h_) (seg := [.int .i64 ji18, .int .i64 ji19]) (j := 0) hcl28 hcc28 (show 2 ≤ 2 from by decide) (x' := (⟨ji18, ji19⟩ : S39)) (k39_mkM _ _ _ (⟨ji18, ji19⟩ : S39) ) (fun _ hk => hk)
          have hx28_0 := hcc28 0 _ rfl
          (try simp only [show (k39).sz = 2 from rfl, Nat.mul_one, Nat.add_zero] at hx28_0)
          have hf28_0 := hfr28 0
          (try simp only [show (k39).sz = 2 from rfl, Nat.mul_one, Nat.add_zero] at hf28_0)
          have hx28_1 := hcc28 1 _ rfl
          (try simp only [show (k39).sz = 2 from rfl, Nat.mul_one, Nat.add_zero] at hx28_1)
          have hf28_1 := hfr28 1
          (try simp only [show (k39).sz = 2 from rfl, Nat.mul_one, Nat.add_zero] at hf28_1)
          clear hcl28 hcc28 hfr28 hM28
          try go_wp2_with (first | ((with_reducible refine gate_store (t := 39) (p := 67) rfl ?_); refine store_event (t := 39) (p := 67) (v := ?vo_w29) (w1 := ((w26.setCell ⟨go21, (x29_1 : Int).toNat * 2, none⟩ (.int .i64 ji18)).setCell ⟨go21, (x29_1 : Int).toNat * 2 + 1, none⟩ (.int .i64 ji19))) ?hg ?ho ?hn ?hr ?_; (case ho => rfl); (case hg => rfl); (case hn => rfl); (case hr => first | (go_simp; done) | (go_simp; rfl)); intro w29 hw; have hg : w26.grownBy w29 (some go21) := (by rw [hw]; exact HP28.2); have hp_ : Kd.R k39 39 w29 w.heap.size (fun k_ => k_ ≠ gb512) (.slice (some ⟨go21, 0, none⟩) x8_1.length co13) y513 := (by rw [hw, Ny513.out]; exact HP28.1); clear HP28; have n0_ := Aside0.mk (hp_); have n1_ := Aside0.mk (blk_grown (g := gb512) (o := .cells #[.int .i64 ji18, .int .i64 ji19] 39 (0, 0)) (by (with_reducible repeat (first | refine blk_drewN ?_ _ | refine blk_drew ?_ | refine blk_alloc ?_ _)); exact BK512.out) hg (Kd.R_away HO_8.out (fun _ hk => hk))); have n2_ := Aside0.mk ((by rw [hw]; exact below_set (below_set (HB.out) GB21.out) GB21.out : Below w.heap.size w w29)); clear HO_8; clear BK512; clear HB; have HO_8 := n0_; have BK512 := n1_; have HB := n2_; clear n0_ n1_ n2_; clear hg hw hp_))
          (try simp only [← hl8_1])
          go_roundg k1
          case measure => have := HK1.out; omega
          case rel => exact ⟨(y513), (wrap64 (x29_1 + 1)), (by first | rfl | (simp; done) | (simp [*]; done)), H', ⟨by have := HK1.out; omega⟩, ⟨by (try simp only [hl8_1]); (with_reducible repeat (first | apply Kd.R_alloc | apply Kd.R_drewN | apply Kd.R_drew)); exact Kd.R_mono HO_8.out (fun _ hk => trivial)⟩, ⟨by repeat (first | (with_reducible first | exact HB.out | apply below_alloc | apply pw_below_drewN | apply below_drew1 | refine below_set ?_ GE512.out) | exact HB.out)⟩⟩
         ·rw [if_neg c20] at H
          have c20b0 : decide ((ji18) ≤ (ji19)) = false := decide_eq_false c20
          clear c20
          have H' := Aside0.mk H
          clear H
          try go_wp2
          have n0_ := Aside0.mk (Kd.R_drew HO_8.out)
          have n1_ := Aside0.mk (below_drew1 HB.out)
          clear HO_8
          clear HB
          have HO_8 := n0_
          have HB := n1_
          clear n0_ n1_
          have p508 : 0 ≤ (x29_1 : Int) := of_decide_eq_true (by first | (with_reducible assumption) | assumption)
          have q508 : x29_1 < (x8_1.length : Int) := of_decide_eq_true (by first | (with_reducible assumption) | assumption)
          obtain ⟨ad508, e508, hx508_0, hx508_1⟩ := at_T39 (Kd.R_reads' HO_8.out).2.2 x29_1 p508 q508
          cases e508
          replace p508 := eq_true p508
          replace q508 := eq_true q508
          have p509 : 0 ≤ (x29_1 : Int) := of_decide_eq_true (by first | (with_reducible assumption) | assumption)
          have q509 : x29_1 < (l2.length : Int) := of_decide_eq_true (by first | (with_reducible assumption) | assumption)
          obtain ⟨ad509, e509, hx509_0, hx509_1⟩ := at_T39 HR2.out x29_1 p509 q509
          have hw509_1 := hx509_1
          have hw509_0 := hx509_0
          cases e509
          replace hx509_0 := (HB.out.cell (World.block_lt_of_cell? w _ hx509_0)).trans hx509_0
          replace hx509_1 := (HB.out.cell (World.block_lt_of_cell? w _ hx509_1)).trans hx509_1
          replace p509 := eq_true p509
          replace q509 := eq_true q509
          have p510 : 0 ≤ (x29_1 : Int) := of_decide_eq_true (by first | (with_reducible assumption) | assumption)
          have q510 : x29_1 < (x8_1.length : Int) := of_decide_eq_true (by first | (with_reducible assumption) | assumption)
          obtain ⟨ad510, e510, hx510_0, hx510_1⟩ := at_T39 (Kd.R_reads' HO_8.out).2.2 x29_1 p510 q510
          obtain rfl : ad508 = ad510 := (by injection e510)
          replace p510 := eq_true p510
          replace q510 := eq_true q510
          have p511 : 0 ≤ (x29_1 : Int) := of_decide_eq_true (by first | (with_reducible assumption) | assumption)
          have q511 : x29_1 < (l2.length : Int) := of_decide_eq_true (by first | (with_reducible assumption) | assumption)
          obtain ⟨ad511, e511, hx511_0, hx511_1⟩ := at_T39 HR2.out x29_1 p511 q511
          have hw511_1 := hx511_1
          have hw511_0 := hx511_0
          obtain rfl : ad509 = ad511 := (by injection e511)
          replace hx511_0 := (HB.out.cell (World.block_lt_of_cell? w _ hx511_0)).trans hx511_0
          replace hx511_1 := (HB.out.cell (World.block_lt_of_cell? w _ hx511_1)).trans hx511_1
          replace p511 := eq_true p511
          replace q511 := eq_true q511
          refine start_ (n := 25) (S := fun w' => w'.cell? (ad508.add ((x29_1).toNat * 2)) = some (.int .i64 ((rd_T39 x8_1 x29_1).f0)) ∧ w'.cell? ⟨(ad508.add ((x29_1).toNat * 2)).block, (ad508.add ((x29_1).toNat * 2)).off + 1, none⟩ = some (.int .i64 ((rd_T39 x8_1 x29_1).f1)) ∧ w'.cell? (ad509.add ((x29_1).toNat * 2)) = some (.int .i64 ((rd_T39 l2 x29_1).f0)) ∧ w'.cell? ⟨(ad509.add ((x29_1).toNat * 2)).block, (ad509.add ((x29_1).toNat * 2)).off + 1, none⟩ = some (.int .i64 ((rd_T39 l2 x29_1).f1)) ∧ w'.cell? (ad508.add ((x29_1).toNat * 2)) = some (.int .i64 ((rd_T39 x8_1 x29_1).f0)) ∧ w'.cell? ⟨(ad508.add ((x29_1).toNat * 2)).block, (ad508.add ((x29_1).toNat * 2)).off + 1, none⟩ = some (.int .i64 ((rd_T39 x8_1 x29_1).f1)) ∧ w'.cell? (ad509.add ((x29_1).toNat * 2)) = some (.int .i64 ((rd_T39 l2 x29_1).f0)) ∧ w'.cell? ⟨(ad509.add ((x29_1).toNat * 2)).block, (ad509.add ((x29_1).toNat * 2)).off + 1, none⟩ = some (.int .i64 ((rd_T39 l2 x29_1).f1))) (ds := []) #[n_, n_, n_, n_, n_, n_, n_, n_, n_, n_, n_, n_, n_, n_, n_, n_, n_, n_, n_, n_, n_, n_, n_, n_, n_] (by kernel_rfl) rfl rfl ⟨hx508_0, hx508_1, ((HB.out.cell (World.block_lt_of_cell? w _ hw509_0)).trans hw509_0), ((HB.out.cell (World.block_lt_of_cell? w _ hw509_1)).trans hw509_1), hx510_0, hx510_1, ((HB.out.cell (World.block_lt_of_cell? w _ hw511_0)).trans hw511_0), ((HB.out.cell (World.block_lt_of_cell? w _ hw511_1)).trans hw511_1)⟩ (fun hHeld => ?_); refine with_tabW cohousinglaw28_FlowKnowledge.tab9 cohousinglaw28_FlowKnowledge.bits9 (fun HT_ HW_ => ?_)
          generalize wr.drew = w30 at HO_8 HB hx508_0 hx508_1 hx509_0 hx509_1 hx510_0 hx510_1 hx511_0 hx511_1 hHeld ⊢
          refine pure_ (i := 0) (N := some 36) (v := ?_) (a' := ?_) #[y_, n_, n_, n_, n_, n_, n_, n_, n_, n_, n_, n_, n_, n_, n_, n_, n_, n_, n_, n_, n_, n_, n_, n_, n_] rfl rfl (any_of HT_.out (by kernel_rfl)) (fun _ _ _ h => h) (Or.inl ⟨by rfl, ?_⟩) ?_ ?_
          rotate_left
          ·intro w'
           go_simp
           with_reducible rfl
          rotate_left
          ·simp only [Act.put, sI_, s0_, sS_, i64_w, i32_w]
           rfl
          refine pure_ (i := 1) (N := some 37) (v := ?_) (a' := ?_) #[y_, y_, n_, n_, n_, n_, n_, n_, n_, n_, n_, n_, n_, n_, n_, n_, n_, n_, n_, n_, n_, n_, n_, n_, n_] rfl rfl (any_of HT_.out (by kernel_rfl)) (fun _ _ _ h => h) (Or.inl ⟨by rfl, ?_⟩) ?_ ?_
          rotate_left
          ·intro w'
           go_simp
           with_reducible rfl
          rotate_left
          ·simp only [Act.put, sI_, s0_, sS_, i64_w, i32_w]
           rfl
          refine pure_ (i := 2) (N := some 38) (v := ?_) (a' := ?_) #[y_, y_, y_, n_, n_, n_, n_, n_, n_, n_, n_, n_, n_, n_, n_, n_, n_, n_, n_, n_, n_, n_, n_, n_, n_] rfl rfl (any_of HT_.out (by kernel_rfl)) (fun _ _ _ h => h) (Or.inl ⟨by rfl, ?_⟩) ?_ ?_
          rotate_left
          ·intro w'
           go_simp
           with_reducible rfl
          rotate_left
          ·simp only [Act.put, sI_, s0_, sS_, i64_w, i32_w]
           rfl
          refine pure_ (i := 3) (N := some 39) (v := ?_) (a' := ?_) #[y_, y_, y_, y_, n_, n_, n_, n_, n_, n_, n_, n_, n_, n_, n_, n_, n_, n_, n_, n_, n_, n_, n_, n_, n_] rfl rfl (any_of HT_.out (by kernel_rfl)) (fun _ _ _ h => h) (Or.inl ⟨by rfl, ?_⟩) ?_ ?_
          rotate_left
          ·intro w'
           go_simp
           with_reducible rfl
          rotate_left
          ·simp only [Act.put, sI_, s0_, sS_, i64_w, i32_w]
           rfl
          refine pure_ (i := 5) (N := some 41) (v := ?_) (a' := ?_) #[y_, y_, y_, y_, n_, y_, n_, n_, n_, n_, n_, n_, n_, n_, n_, n_, n_, n_, n_, n_, n_, n_, n_, n_, n_] rfl rfl (any_of HT_.out (by kernel_rfl)) (fun _ _ _ h => h) (Or.inl ⟨by rfl, ?_⟩) ?_ ?_
          rotate_left
          ·intro w'
           go_simp
           with_reducible rfl
          rotate_left
          ·simp only [Act.put, sI_, s0_, sS_, i64_w, i32_w]
           rfl
          refine pure_ (i := 6) (N := some 42) (v := ?_) (a' := ?_) #[y_, y_, y_, y_, n_, y_, y_, n_, n_, n_, n_, n_, n_, n_, n_, n_, n_, n_, n_, n_, n_, n_, n_, n_, n_] rfl rfl (any_of HT_.out (by kernel_rfl)) (fun _ _ _ h => h) (Or.inl ⟨by rfl, ?_⟩) ?_ ?_
          rotate_left
          ·intro w'
           go_simp
           with_reducible rfl
          rotate_left
          ·simp only [Act.put, sI_, s0_, sS_, i64_w, i32_w]
           rfl
          refine pure_ (i := 7) (N := some 43) (v := ?_) (a' := ?_) #[y_, y_, y_, y_, n_, y_, y_, y_, n_, n_, n_, n_, n_, n_, n_, n_, n_, n_, n_, n_, n_, n_, n_, n_, n_] rfl rfl (any_of HT_.out (by kernel_rfl)) (fun _ _ _ h => h) (Or.inl ⟨by rfl, ?_⟩) ?_ ?_
          rotate_left
          ·intro w'
           go_simp
           with_reducible rfl
          rotate_left
          ·simp only [Act.put, sI_, s0_, sS_, i64_w, i32_w]
           rfl
          refine pure_ (i := 8) (N := some 44) (v := ?_) (a' := ?_) #[y_, y_, y_, y_, n_, y_, y_, y_, y_, n_, n_, n_, n_, n_, n_, n_, n_, n_, n_, n_, n_, n_, n_, n_, n_] rfl rfl (any_of HT_.out (by kernel_rfl)) (fun _ _ _ h => h) (Or.inl ⟨by rfl, ?_⟩) ?_ ?_
          rotate_left
          ·intro w'
           go_simp
           with_reducible rfl
          rotate_left
          ·simp only [Act.put, sI_, s0_, sS_, i64_w, i32_w]
           rfl
          refine pure_ (i := 11) (N := some 47) (v := ?_) (a' := ?_) #[y_, y_, y_, y_, n_, y_, y_, y_, y_, n_, n_, y_, n_, n_, n_, n_, n_, n_, n_, n_, n_, n_, n_, n_, n_] rfl rfl (any_of HT_.out (by kernel_rfl)) (fun _ _ _ h => h) (Or.inl ⟨by rfl, ?_⟩) ?_ ?_
          rotate_left
          ·intro w'
           go_simp
           with_reducible rfl
          rotate_left
          ·simp only [Act.put, sI_, s0_, sS_, i64_w, i32_w]
           rfl
          refine pure_ (i := 12) (N := some 48) (v := ?_) (a' := ?_) #[y_, y_, y_, y_, n_, y_, y_, y_, y_, n_, n_, y_, y_, n_, n_, n_, n_, n_, n_, n_, n_, n_, n_, n_, n_] rfl rfl (any_of HT_.out (by kernel_rfl)) (fun _ _ _ h => h) (Or.inl ⟨by rfl, ?_⟩) ?_ ?_
          rotate_left
          ·intro w'
           go_simp
           with_reducible rfl
          rotate_left
          ·simp only [Act.put, sI_, s0_, sS_, i64_w, i32_w]
           rfl
          refine pure_ (i := 13) (N := some 49) (v := ?_) (a' := ?_) #[y_, y_, y_, y_, n_, y_, y_, y_, y_, n_, n_, y_, y_, y_, n_, n_, n_, n_, n_, n_, n_, n_, n_, n_, n_] rfl rfl (any_of HT_.out (by kernel_rfl)) (fun _ _ _ h => h) (Or.inl ⟨by rfl, ?_⟩) ?_ ?_
          rotate_left
          ·intro w'
           go_simp
           with_reducible rfl
          rotate_left
          ·simp only [Act.put, sI_, s0_, sS_, i64_w, i32_w]
           rfl
          refine pure_ (i := 14) (N := some 50) (v := ?_) (a' := ?_) #[y_, y_, y_, y_, n_, y_, y_, y_, y_, n_, n_, y_, y_, y_, y_, n_, n_, n_, n_, n_, n_, n_, n_, n_, n_] rfl rfl (any_of HT_.out (by kernel_rfl)) (fun _ _ _ h => h) (Or.inl ⟨by rfl, ?_⟩) ?_ ?_
          rotate_left
          ·intro w'
           go_simp
           with_reducible rfl
          rotate_left
          ·simp only [Act.put, sI_, s0_, sS_, i64_w, i32_w]
           rfl
          refine pure_ (i := 16) (N := some 52) (v := ?_) (a' := ?_) #[y_, y_, y_, y_, n_, y_, y_, y_, y_, n_, n_, y_, y_, y_, y_, n_, y_, n_, n_, n_, n_, n_, n_, n_, n_] rfl rfl (any_of HT_.out (by kernel_rfl)) (fun _ _ _ h => h) (Or.inl ⟨by rfl, ?_⟩) ?_ ?_
          rotate_left
          ·intro w'
           go_simp
           with_reducible rfl
          rotate_left
          ·simp only [Act.put, sI_, s0_, sS_, i64_w, i32_w]
           rfl
          refine pure_ (i := 17) (N := some 53) (v := ?_) (a' := ?_) #[y_, y_, y_, y_, n_, y_, y_, y_, y_, n_, n_, y_, y_, y_, y_, n_, y_, y_, n_, n_, n_, n_, n_, n_, n_] rfl rfl (any_of HT_.out (by kernel_rfl)) (fun _ _ _ h => h) (Or.inl ⟨by rfl, ?_⟩) ?_ ?_
          rotate_left
          ·intro w'
           go_simp
           with_reducible rfl
          rotate_left
          ·simp only [Act.put, sI_, s0_, sS_, i64_w, i32_w]
           rfl
          refine pure_ (i := 18) (N := some 54) (v := ?_) (a' := ?_) #[y_, y_, y_, y_, n_, y_, y_, y_, y_, n_, n_, y_, y_, y_, y_, n_, y_, y_, y_, n_, n_, n_, n_, n_, n_] rfl rfl (any_of HT_.out (by kernel_rfl)) (fun _ _ _ h => h) (Or.inl ⟨by rfl, ?_⟩) ?_ ?_
          rotate_left
          ·intro w'
           go_simp
           with_reducible rfl
          rotate_left
          ·simp only [Act.put, sI_, s0_, sS_, i64_w, i32_w]
           rfl
          refine pure_ (i := 19) (N := some 55) (v := ?_) (a' := ?_) #[y_, y_, y_, y_, n_, y_, y_, y_, y_, n_, n_, y_, y_, y_, y_, n_, y_, y_, y_, y_, n_, n_, n_, n_, n_] rfl rfl (any_of HT_.out (by kernel_rfl)) (fun _ _ _ h => h) (Or.inl ⟨by rfl, ?_⟩) ?_ ?_
          rotate_left
          ·intro w'
           go_simp
           with_reducible rfl
          rotate_left
          ·simp only [Act.put, sI_, s0_, sS_, i64_w, i32_w]
           rfl
          refine take_ (i := 4) (N := some 40) (v := ?_) (a' := ?_) #[y_, y_, y_, y_, y_, y_, y_, y_, y_, n_, n_, y_, y_, y_, y_, n_, y_, y_, y_, y_, n_, n_, n_, n_, n_] rfl rfl (take_ofW HT_.out HW_.out (by kernel_rfl)) (fun _ _ _ h => h) (Or.inl ⟨by rfl, ?_⟩) hHeld ?_ ?_
          rotate_left
          ·rintro w' ⟨s0, s1, s2, s3, s4, s5, s6, s7⟩
           go_simp
           with_reducible rfl
          rotate_left
          ·simp only [Act.put, sI_, s0_, sS_, i64_w, i32_w]
           rfl
          refine take_ (i := 9) (N := some 45) (v := ?_) (a' := ?_) #[y_, y_, y_, y_, y_, y_, y_, y_, y_, y_, n_, y_, y_, y_, y_, n_, y_, y_, y_, y_, n_, n_, n_, n_, n_] rfl rfl (take_ofW HT_.out HW_.out (by kernel_rfl)) (fun _ _ _ h => h) (Or.inl ⟨by rfl, ?_⟩) hHeld ?_ ?_
          rotate_left
          ·rintro w' ⟨s0, s1, s2, s3, s4, s5, s6, s7⟩
           go_simp
           with_reducible rfl
          rotate_left
          ·simp only [Act.put, sI_, s0_, sS_, i64_w, i32_w]
           rfl
          refine pure_ (i := 10) (N := some 46) (v := ?_) (a' := ?_) #[y_, y_, y_, y_, y_, y_, y_, y_, y_, y_, y_, y_, y_, y_, y_, n_, y_, y_, y_, y_, n_, n_, n_, n_, n_] rfl rfl (any_of HT_.out (by kernel_rfl)) (fun _ _ _ h => h) (Or.inl ⟨by rfl, ?_⟩) ?_ ?_
          rotate_left
          ·intro w'
           go_simp
           with_reducible rfl
          rotate_left
          ·simp only [Act.put, sI_, s0_, sS_, i64_w, i32_w]
           rfl
          refine take_ (i := 15) (N := some 51) (v := ?_) (a' := ?_) #[y_, y_, y_, y_, y_, y_, y_, y_, y_, y_, y_, y_, y_, y_, y_, y_, y_, y_, y_, y_, n_, n_, n_, n_, n_] rfl rfl (take_ofW HT_.out HW_.out (by kernel_rfl)) (fun _ _ _ h => h) (Or.inl ⟨by rfl, ?_⟩) hHeld ?_ ?_
          rotate_left
          ·rintro w' ⟨s0, s1, s2, s3, s4, s5, s6, s7⟩
           go_simp
           with_reducible rfl
          rotate_left
          ·simp only [Act.put, sI_, s0_, sS_, i64_w, i32_w]
           rfl
          refine take_ (i := 20) (N := some 56) (v := ?_) (a' := ?_) #[y_, y_, y_, y_, y_, y_, y_, y_, y_, y_, y_, y_, y_, y_, y_, y_, y_, y_, y_, y_, y_, n_, n_, n_, n_] rfl rfl (take_ofW HT_.out HW_.out (by kernel_rfl)) (fun _ _ _ h => h) (Or.inl ⟨by rfl, ?_⟩) hHeld ?_ ?_
          rotate_left
          ·rintro w' ⟨s0, s1, s2, s3, s4, s5, s6, s7⟩
           go_simp
           with_reducible rfl
          rotate_left
          ·simp only [Act.put, sI_, s0_, sS_, i64_w, i32_w]
           rfl
          refine pure_ (i := 21) (N := some 57) (v := ?_) (a' := ?_) #[y_, y_, y_, y_, y_, y_, y_, y_, y_, y_, y_, y_, y_, y_, y_, y_, y_, y_, y_, y_, y_, y_, n_, n_, n_] rfl rfl (any_of HT_.out (by kernel_rfl)) (fun _ _ _ h => h) (Or.inl ⟨by rfl, ?_⟩) ?_ ?_
          rotate_left
          ·intro w'
           go_simp
           with_reducible rfl
          rotate_left
          ·simp only [Act.put, sI_, s0_, sS_, i64_w, i32_w]
           rfl
          refine pure_ (i := 22) (N := some 58) (v := ?_) (a' := ?_) #[y_, y_, y_, y_, y_, y_, y_, y_, y_, y_, y_, y_, y_, y_, y_, y_, y_, y_, y_, y_, y_, y_, y_, n_, n_] rfl rfl (any_of HT_.out (by kernel_rfl)) (fun _ _ _ h => h) (Or.inl ⟨by rfl, ?_⟩) ?_ ?_
          rotate_left
          ·intro w'
           go_simp
           with_reducible rfl
          rotate_left
          ·simp only [Act.put, sI_, s0_, sS_, i64_w, i32_w]
           rfl
          refine one_ (i := 23) (N := some 10) #[y_, y_, y_, y_, y_, y_, y_, y_, y_, y_, y_, y_, y_, y_, y_, y_, y_, y_, y_, y_, y_, y_, y_, y_, n_] rfl rfl (one_of HT_.out (by kernel_rfl)) (by decide) (fun K hK => ?_)
          refine box_step ?hg (N := 10) ?hd (cs := #[.int .i64 0, .int .i64 0]) (t := 39) ?hr ?_; (case hd => rfl); (case hg => rfl); (case hr => first | (go_simp; done) | (go_simp; rfl))
          intro gb512 hg w31 hbox hb
          have HS0_ := (hb.cell (World.block_lt_of_cell? _ _ (hHeld.1))).trans (hHeld.1)
          have HS1_ := (hb.cell (World.block_lt_of_cell? _ _ (hHeld.2.1))).trans (hHeld.2.1)
          have HS4_ := (hb.cell (World.block_lt_of_cell? _ _ (hHeld.2.2.2.2.1))).trans (hHeld.2.2.2.2.1)
          have HS5_ := (hb.cell (World.block_lt_of_cell? _ _ (hHeld.2.2.2.2.2.1))).trans (hHeld.2.2.2.2.2.1)
          have n0_ := Aside0.mk (Kd.R_below (Kd.R_elderB (by (with_reducible repeat (first | apply Kd.R_alloc | apply Kd.R_drewN | apply Kd.R_drew)); exact HO_8.out) gb512 (Nat.le_of_eq hg.symm)) hb)
          have n1_ := Aside0.mk (below_step (by repeat (first | (with_reducible first | exact HB.out | apply below_alloc | apply pw_below_drewN | apply below_drew1) | exact HB.out)) hb)
          have n2_ := Aside0.mk (hbox)
          have n3_ := Aside0.mk ((by rw [hg]; exact (below_size (by repeat (first | (with_reducible first | exact HB.out | apply below_alloc | apply pw_below_drewN | apply below_drew1) | exact HB.out))) : w.heap.size ≤ gb512))
          have n4_ := Aside0.mk ((by rw [hg]; exact (below_size (by repeat (first | (with_reducible first | exact HB.out | apply below_alloc | apply pw_below_drewN | apply below_drew1) | exact HB.out))) : w.heap.size ≤ gb512))
          clear HO_8
          clear HB
          have HO_8 := n0_
          have HB := n1_
          have BK512 := n2_
          have GW512 := n3_
          have GE512 := n4_
          clear n0_ n1_ n2_ n3_ n4_
          clear hb hbox hg
          refine hK.out _ _ ⟨HS0_, HS1_, ((HB.out.cell (World.block_lt_of_cell? w _ hw509_0)).trans hw509_0), ((HB.out.cell (World.block_lt_of_cell? w _ hw509_1)).trans hw509_1), HS4_, HS5_, ((HB.out.cell (World.block_lt_of_cell? w _ hw511_0)).trans hw511_0), ((HB.out.cell (World.block_lt_of_cell? w _ hw511_1)).trans hw511_1)⟩ (fun hHeld => ?_)
          clear hK K
          refine norm_ (a' := ?_) ?_ ?_
          rotate_left
          ·show Act.put _ (some 10) _ = _
           simp only [Act.put, sI_, s0_, sS_, i64_w, i32_w]
           rfl
          refine one_ (i := 24) (N := none) #[y_, y_, y_, y_, y_, y_, y_, y_, y_, y_, y_, y_, y_, y_, y_, y_, y_, y_, y_, y_, y_, y_, y_, y_, y_] rfl rfl (one_of HT_.out (by kernel_rfl)) (by decide) (fun K hK => ?_)
          have hs32 : w31.cell? ⟨gb512, 0, none⟩ = some (.int .i64 0) := (blk_cell BK512.out 0).trans rfl
          have hfs32 := blk_frozen BK512.out 0
          have hs33 : w31.cell? ⟨gb512, 1, none⟩ = some (.int .i64 0) := (blk_cell BK512.out 1).trans rfl
          have hfs33 := blk_frozen BK512.out 1
          refine skip_ (w1 := ?_) (by rfl) rfl ?_ ?_
          rotate_left
          ·go_simp
           rfl
          refine hK.out _ _ ⟨((cell_far (p := ⟨gb512, _, none⟩) (by first | exact Kd.own_blk (Kd.R_away HO_8.out (fun _ hk => hk.2)) | (rw [add_block]; exact Kd.own_blk (Kd.R_away HO_8.out (fun _ hk => hk.2))) | (show (Addr.add _ _).block ≠ _; rw [add_block]; exact Kd.own_blk (Kd.R_away HO_8.out (fun _ hk => hk.2))) | (dsimp only; exact Kd.own_blk (Kd.R_away HO_8.out (fun _ hk => hk.2)))) _).trans (((cell_far (p := ⟨gb512, _, none⟩) (by first | exact Kd.own_blk (Kd.R_away HO_8.out (fun _ hk => hk.2)) | (rw [add_block]; exact Kd.own_blk (Kd.R_away HO_8.out (fun _ hk => hk.2))) | (show (Addr.add _ _).block ≠ _; rw [add_block]; exact Kd.own_blk (Kd.R_away HO_8.out (fun _ hk => hk.2))) | (dsimp only; exact Kd.own_blk (Kd.R_away HO_8.out (fun _ hk => hk.2)))) _).trans (hHeld.1)))), ((cell_far (p := ⟨gb512, _, none⟩) (by first | exact Kd.own_blk (Kd.R_away HO_8.out (fun _ hk => hk.2)) | (rw [add_block]; exact Kd.own_blk (Kd.R_away HO_8.out (fun _ hk => hk.2))) | (show (Addr.add _ _).block ≠ _; rw [add_block]; exact Kd.own_blk (Kd.R_away HO_8.out (fun _ hk => hk.2))) | (dsimp only; exact Kd.own_blk (Kd.R_away HO_8.out (fun _ hk => hk.2)))) _).trans (((cell_far (p := ⟨gb512, _, none⟩) (by first | exact Kd.own_blk (Kd.R_away HO_8.out (fun _ hk => hk.2)) | (rw [add_block]; exact Kd.own_blk (Kd.R_away HO_8.out (fun _ hk => hk.2))) | (show (Addr.add _ _).block ≠ _; rw [add_block]; exact Kd.own_blk (Kd.R_away HO_8.out (fun _ hk => hk.2))) | (dsimp only; exact Kd.own_blk (Kd.R_away HO_8.out (fun _ hk => hk.2)))) _).trans (hHeld.2.1)))), ((cell_far (p := ⟨gb512, _, none⟩) (by first | exact Nat.ne_of_lt (Nat.lt_of_lt_of_le (by have := World.block_lt_of_cell? _ _ hw509_0; first | rwa [add_block] at this | exact this) GW512.out) | (rw [add_block]; exact Nat.ne_of_lt (Nat.lt_of_lt_of_le (by have := World.block_lt_of_cell? _ _ hw509_0; first | rwa [add_block] at this | exact this) GW512.out)) | (show (Addr.add _ _).block ≠ _; rw [add_block]; exact Nat.ne_of_lt (Nat.lt_of_lt_of_le (by have := World.block_lt_of_cell? _ _ hw509_0; first | rwa [add_block] at this | exact this) GW512.out)) | (dsimp only; exact Nat.ne_of_lt (Nat.lt_of_lt_of_le (by have := World.block_lt_of_cell? _ _ hw509_0; first | rwa [add_block] at this | exact this) GW512.out))) _).trans (((cell_far (p := ⟨gb512, _, none⟩) (by first | exact Nat.ne_of_lt (Nat.lt_of_lt_of_le (by have := World.block_lt_of_cell? _ _ hw509_0; first | rwa [add_block] at this | exact this) GW512.out) | (rw [add_block]; exact Nat.ne_of_lt (Nat.lt_of_lt_of_le (by have := World.block_lt_of_cell? _ _ hw509_0; first | rwa [add_block] at this | exact this) GW512.out)) | (show (Addr.add _ _).block ≠ _; rw [add_block]; exact Nat.ne_of_lt (Nat.lt_of_lt_of_le (by have := World.block_lt_of_cell? _ _ hw509_0; first | rwa [add_block] at this | exact this) GW512.out)) | (dsimp only; exact Nat.ne_of_lt (Nat.lt_of_lt_of_le (by have := World.block_lt_of_cell? _ _ hw509_0; first | rwa [add_block] at this | exact this) GW512.out))) _).trans (hHeld.2.2.1)))), ((cell_far (p := ⟨gb512, _, none⟩) (by first | exact Nat.ne_of_lt (Nat.lt_of_lt_of_le (by have := World.block_lt_of_cell? _ _ hw509_1; first | rwa [add_block] at this | exact this) GW512.out) | (rw [add_block]; exact Nat.ne_of_lt (Nat.lt_of_lt_of_le (by have := World.block_lt_of_cell? _ _ hw509_1; first | rwa [add_block] at this | exact this) GW512.out)) | (show (Addr.add _ _).block ≠ _; rw [add_block]; exact Nat.ne_of_lt (Nat.lt_of_lt_of_le (by have := World.block_lt_of_cell? _ _ hw509_1; first | rwa [add_block] at this | exact this) GW512.out)) | (dsimp only; exact Nat.ne_of_lt (Nat.lt_of_lt_of_le (by have := World.block_lt_of_cell? _ _ hw509_1; first | rwa [add_block] at this | exact this) GW512.out))) _).trans (((cell_far (p := ⟨gb512, _, none⟩) (by first | exact Nat.ne_of_lt (Nat.lt_of_lt_of_le (by have := World.block_lt_of_cell? _ _ hw509_1; first | rwa [add_block] at this | exact this) GW512.out) | (rw [add_block]; exact Nat.ne_of_lt (Nat.lt_of_lt_of_le (by have := World.block_lt_of_cell? _ _ hw509_1; first | rwa [add_block] at this | exact this) GW512.out)) | (show (Addr.add _ _).block ≠ _; rw [add_block]; exact Nat.ne_of_lt (Nat.lt_of_lt_of_le (by have := World.block_lt_of_cell? _ _ hw509_1; first | rwa [add_block] at this | exact this) GW512.out)) | (dsimp only; exact Nat.ne_of_lt (Nat.lt_of_lt_of_le (by have := World.block_lt_of_cell? _ _ hw509_1; first | rwa [add_block] at this | exact this) GW512.out))) _).trans (hHeld.2.2.2.1)))), ((cell_far (p := ⟨gb512, _, none⟩) (by first | exact Kd.own_blk (Kd.R_away HO_8.out (fun _ hk => hk.2)) | (rw [add_block]; exact Kd.own_blk (Kd.R_away HO_8.out (fun _ hk => hk.2))) | (show (Addr.add _ _).block ≠ _; rw [add_block]; exact Kd.own_blk (Kd.R_away HO_8.out (fun _ hk => hk.2))) | (dsimp only; exact Kd.own_blk (Kd.R_away HO_8.out (fun _ hk => hk.2)))) _).trans (((cell_far (p := ⟨gb512, _, none⟩) (by first | exact Kd.own_blk (Kd.R_away HO_8.out (fun _ hk => hk.2)) | (rw [add_block]; exact Kd.own_blk (Kd.R_away HO_8.out (fun _ hk => hk.2))) | (show (Addr.add _ _).block ≠ _; rw [add_block]; exact Kd.own_blk (Kd.R_away HO_8.out (fun _ hk => hk.2))) | (dsimp only; exact Kd.own_blk (Kd.R_away HO_8.out (fun _ hk => hk.2)))) _).trans (hHeld.2.2.2.2.1)))), ((cell_far (p := ⟨gb512, _, none⟩) (by first | exact Kd.own_blk (Kd.R_away HO_8.out (fun _ hk => hk.2)) | (rw [add_block]; exact Kd.own_blk (Kd.R_away HO_8.out (fun _ hk => hk.2))) | (show (Addr.add _ _).block ≠ _; rw [add_block]; exact Kd.own_blk (Kd.R_away HO_8.out (fun _ hk => hk.2))) | (dsimp only; exact Kd.own_blk (Kd.R_away HO_8.out (fun _ hk => hk.2)))) _).trans (((cell_far (p := ⟨gb512, _, none⟩) (by first | exact Kd.own_blk (Kd.R_away HO_8.out (fun _ hk => hk.2)) | (rw [add_block]; exact Kd.own_blk (Kd.R_away HO_8.out (fun _ hk => hk.2))) | (show (Addr.add _ _).block ≠ _; rw [add_block]; exact Kd.own_blk (Kd.R_away HO_8.out (fun _ hk => hk.2))) | (dsimp only; exact Kd.own_blk (Kd.R_away HO_8.out (fun _ hk => hk.2)))) _).trans (hHeld.2.2.2.2.2.1)))), ((cell_far (p := ⟨gb512, _, none⟩) (by first | exact Nat.ne_of_lt (Nat.lt_of_lt_of_le (by have := World.block_lt_of_cell? _ _ hw511_0; first | rwa [add_block] at this | exact this) GW512.out) | (rw [add_block]; exact Nat.ne_of_lt (Nat.lt_of_lt_of_le (by have := World.block_lt_of_cell? _ _ hw511_0; first | rwa [add_block] at this | exact this) GW512.out)) | (show (Addr.add _ _).block ≠ _; rw [add_block]; exact Nat.ne_of_lt (Nat.lt_of_lt_of_le (by have := World.block_lt_of_cell? _ _ hw511_0; first | rwa [add_block] at this | exact this) GW512.out)) | (dsimp only; exact Nat.ne_of_lt (Nat.lt_of_lt_of_le (by have := World.block_lt_of_cell? _ _ hw511_0; first | rwa [add_block] at this | exact this) GW512.out))) _).trans (((cell_far (p := ⟨gb512, _, none⟩) (by first | exact Nat.ne_of_lt (Nat.lt_of_lt_of_le (by have := World.block_lt_of_cell? _ _ hw511_0; first | rwa [add_block] at this | exact this) GW512.out) | (rw [add_block]; exact Nat.ne_of_lt (Nat.lt_of_lt_of_le (by have := World.block_lt_of_cell? _ _ hw511_0; first | rwa [add_block] at this | exact this) GW512.out)) | (show (Addr.add _ _).block ≠ _; rw [add_block]; exact Nat.ne_of_lt (Nat.lt_of_lt_of_le (by have := World.block_lt_of_cell? _ _ hw511_0; first | rwa [add_block] at this | exact this) GW512.out)) | (dsimp only; exact Nat.ne_of_lt (Nat.lt_of_lt_of_le (by have := World.block_lt_of_cell? _ _ hw511_0; first | rwa [add_block] at this | exact this) GW512.out))) _).trans (hHeld.2.2.2.2.2.2.1)))), ((cell_far (p := ⟨gb512, _, none⟩) (by first | exact Nat.ne_of_lt (Nat.lt_of_lt_of_le (by have := World.block_lt_of_cell? _ _ hw511_1; first | rwa [add_block] at this | exact this) GW512.out) | (rw [add_block]; exact Nat.ne_of_lt (Nat.lt_of_lt_of_le (by have := World.block_lt_of_cell? _ _ hw511_1; first | rwa [add_block] at this | exact this) GW512.out)) | (show (Addr.add _ _).block ≠ _; rw [add_block]; exact Nat.ne_of_lt (Nat.lt_of_lt_of_le (by have := World.block_lt_of_cell? _ _ hw511_1; first | rwa [add_block] at this | exact this) GW512.out)) | (dsimp only; exact Nat.ne_of_lt (Nat.lt_of_lt_of_le (by have := World.block_lt_of_cell? _ _ hw511_1; first | rwa [add_block] at this | exact this) GW512.out))) _).trans (((cell_far (p := ⟨gb512, _, none⟩) (by first | exact Nat.ne_of_lt (Nat.lt_of_lt_of_le (by have := World.block_lt_of_cell? _ _ hw511_1; first | rwa [add_block] at this | exact this) GW512.out) | (rw [add_block]; exact Nat.ne_of_lt (Nat.lt_of_lt_of_le (by have := World.block_lt_of_cell? _ _ hw511_1; first | rwa [add_block] at this | exact this) GW512.out)) | (show (Addr.add _ _).block ≠ _; rw [add_block]; exact Nat.ne_of_lt (Nat.lt_of_lt_of_le (by have := World.block_lt_of_cell? _ _ hw511_1; first | rwa [add_block] at this | exact this) GW512.out)) | (dsimp only; exact Nat.ne_of_lt (Nat.lt_of_lt_of_le (by have := World.block_lt_of_cell? _ _ hw511_1; first | rwa [add_block] at this | exact this) GW512.out))) _).trans (hHeld.2.2.2.2.2.2.2))))⟩ (fun hHeld => ?_)
          clear hK K
          refine done_ (done_of HT_.out (by kernel_rfl)) ?_
          have hcz34_0 : w31.cell? ⟨gb512, 0, none⟩ = some (.int .i64 0) := (blk_cell BK512.out 0).trans rfl
          have hcz34_1 : w31.cell? ⟨gb512, 1, none⟩ = some (.int .i64 0) := (blk_cell BK512.out 1).trans rfl
          have hfz34_0 := blk_frozen BK512.out 0
          have hfz34_1 := blk_frozen BK512.out 1
          try go_wp2
          (try simp only [← hl8_1])
          go_roundg k1
          case measure => have := HK1.out; omega
          case rel => exact ⟨(x8_1), (wrap64 (x29_1 + 1)), (by first | rfl | (simp; done) | (simp [*]; done)), H', ⟨by have := HK1.out; omega⟩, ⟨by (try simp only [hl8_1]); (with_reducible repeat (first | apply Kd.R_alloc | apply Kd.R_drewN | apply Kd.R_drew)); exact Kd.R_mono (Kd.R_far (p := ⟨gb512, 1, none⟩) (Kd.R_far (p := ⟨gb512, 0, none⟩) (Kd.R_mono HO_8.out (fun k_ hk => (⟨hk, hk.2⟩ : _ ∧ k_ ≠ gb512))) (fun _ hk => hk.2) (.int .i64 ji18)) (fun _ hk => hk.2) (.int .i64 ji19)) (fun _ hk => trivial)⟩, ⟨by repeat (first | (with_reducible first | exact HB.out | apply below_alloc | apply pw_below_drewN | apply below_drew1 | refine below_set ?_ GE512.out) | exact HB.out)⟩⟩
        ·rw [if_neg c17] at H
         exact absurd H (by simp)
       ·rw [if_neg c16] at H
        exact absurd H (by simp)
      ·rw [if_neg c15] at H
       have c15b0 : decide (x29_1 < (l2.length : Int)) = false := decide_eq_false c15
       clear c15
       have H' := Aside0.mk H
       clear H
       go_wp2
       (try simp only [← hl8_1])
       go_roundg k1
       case measure => have := HK1.out; omega
       case rel => exact ⟨(x8_1), (wrap64 (x29_1 + 1)), (by first | rfl | (simp; done) | (simp [*]; done)), H', ⟨by have := HK1.out; omega⟩, ⟨by (try simp only [hl8_1]); (with_reducible repeat (first | apply Kd.R_alloc | apply Kd.R_drewN | apply Kd.R_drew)); exact HO_8.out⟩, ⟨by repeat (first | (with_reducible first | exact HB.out | apply below_alloc | apply pw_below_drewN | apply below_drew1) | exact HB.out)⟩⟩
     ·rw [if_neg c14] at H
      have c14b0 : decide (x29_1 < (y505.length : Int)) = false := decide_eq_false c14
      have c14b1 : decide (x29_1 < (x8_1.length : Int)) = false := decide_eq_false (by have := hl8_1; omega)
      clear c14
      replace H := Option.bind_eq_some_iff.mp H
      obtain ⟨⟨t514, t515⟩, A350, H⟩ := H
      replace H : ((flow_Bounds.f l0 x8_1).bind fun bt518 => (if t515 = 0 then ((flow_Bounds.f l0 t514).bind fun bt522 => (if bt522.2 = 0 then ((cohousingref28_Same.f k1 t514 bt522.1).bind fun t526 => (cohousinglaw28_FlowKnowledge.j1 k1 l0 t500 t514 bt518.1 bt518.2 (!t526))) else (cohousinglaw28_FlowKnowledge.j1 k1 l0 t500 t514 bt518.1 bt518.2 true))) else (if t500 = true then (if t515 = 30 then (some (bt518.2 == 30)) else (some false)) else (some false)))) = some r := H
      have A35 := Aside0.mk A350
      clear A350
      replace H := Option.bind_eq_some_iff.mp H
      obtain ⟨⟨t518, t519⟩, A360, H⟩ := H
      replace H : (if t515 = 0 then ((flow_Bounds.f l0 t514).bind fun bt522 => (if bt522.2 = 0 then ((cohousingref28_Same.f k1 t514 bt522.1).bind fun t526 => (cohousinglaw28_FlowKnowledge.j1 k1 l0 t500 t514 t518 t519 (!t526))) else (cohousinglaw28_FlowKnowledge.j1 k1 l0 t500 t514 t518 t519 true))) else (if t500 = true then (if t515 = 30 then (some (t519 == 30)) else (some false)) else (some false))) = some r := H
      have A36 := Aside0.mk A360
      clear A360
      by_cases c37 : t515 = 0
      ·rw [if_pos c37] at H
       have c37b0 : (t515 == 0) = true := beq_iff_eq.mpr c37
       have c37b1 : (t515 != 0) = false := bne_eq_false_iff_eq.mpr c37
       clear c37
       replace H := Option.bind_eq_some_iff.mp H
       obtain ⟨⟨t522, t523⟩, A380, H⟩ := H
       replace H : (if t523 = 0 then ((cohousingref28_Same.f k1 t514 t522).bind fun t526 => (cohousinglaw28_FlowKnowledge.j1 k1 l0 t500 t514 t518 t519 (!t526))) else (cohousinglaw28_FlowKnowledge.j1 k1 l0 t500 t514 t518 t519 true)) = some r := H
       have A38 := Aside0.mk A380
       clear A380
       have HC39 := Aside0.mk H
       clear H
       go_upto_region 18 with (first | ((with_reducible refine gate_callee (f := 11) rfl ?_); refine goesL_ (some 72) rfl rfl Try.func11 (by kernel_rfl) rfl #[.slice A0 l0.length c0, .slice A1 l1.length c1] rfl (by (try simp only [List.map_toArray, List.map_cons, List.map_nil]); first | done | rfl | (simp only [List.length_drop, List.length_take]; rfl)) ?_; (with_reducible refine (flow_Bounds.calls _ _ l0 _ _ l1 t514 t515 _ ?side1 ?side2 ?side3 ?side4 A35.out).mono ?_); (case side1 => repeat (first | exact (Kd.C_below HR0.out HB.out) | (with_reducible refine Kd.C_alloc ?_ _) | (with_reducible refine Kd.C_drewN ?_ _) | (with_reducible refine Kd.C_drew ?_))); (case side2 => exact HC0.out); (case side3 => repeat (first | exact (Kd.C_below HR1.out HB.out) | (with_reducible refine Kd.C_alloc ?_ _) | (with_reducible refine Kd.C_drewN ?_ _) | (with_reducible refine Kd.C_drew ?_))); (case side4 => exact HC1.out); rintro e w40 ⟨v516, rfl, ho0, hb⟩; refine ⟨_, rfl, ?_⟩; have n0_ := Aside0.mk (Kd.R_elder' (by (with_reducible repeat (first | apply Kd.R_alloc | apply Kd.R_drewN | apply Kd.R_drew)); exact HO_8.out) (Kd.R_base ho0) hb); have n1_ := Aside0.mk (Kd.R_lower (Kd.R_new' ho0 (Kd.R_lt (by (with_reducible repeat (first | apply Kd.R_alloc | apply Kd.R_drewN | apply Kd.R_drew)); exact HO_8.out))) (below_size (by repeat (first | (with_reducible first | exact HB.out | apply below_alloc | apply pw_below_drewN | apply below_drew1) | exact HB.out)))); have n2_ := Aside0.mk (below_step (by repeat (first | (with_reducible first | exact HB.out | apply below_alloc | apply pw_below_drewN | apply below_drew1) | exact HB.out)) hb); clear HO_8; clear HB; have HO_8 := n0_; have HO517 := n1_; have HB := n2_; clear n0_ n1_ n2_; (try clear hb); (try clear hb2); (try clear hk); (try clear hi); (try clear ho0)) | ((with_reducible refine gate_callee (f := 11) rfl ?_); refine goesL_ (some 78) rfl rfl Try.func11 (by kernel_rfl) rfl #[.slice A0 l0.length c0, .slice Ao13 x8_1.length co13] rfl (by (try simp only [List.map_toArray, List.map_cons, List.map_nil]); first | done | rfl | (simp only [List.length_drop, List.length_take]; rfl)) ?_; (with_reducible refine (flow_Bounds.calls _ _ l0 _ _ x8_1 t518 t519 _ ?side1 ?side2 ?side3 ?side4 A36.out).mono ?_); (case side1 => repeat (first | exact (Kd.C_below HR0.out HB.out) | (with_reducible refine Kd.C_alloc ?_ _) | (with_reducible refine Kd.C_drewN ?_ _) | (with_reducible refine Kd.C_drew ?_))); (case side2 => exact HC0.out); (case side3 => repeat (first | exact (Kd.R_reads' HO_8.out).2.2 | (with_reducible refine Kd.C_alloc ?_ _) | (with_reducible refine Kd.C_drewN ?_ _) | (with_reducible refine Kd.C_drew ?_))); (case side4 => exact (Kd.R_reads' HO_8.out).2.1); rintro e w41 ⟨v520, rfl, ho0, hb⟩; refine ⟨_, rfl, ?_⟩; have n0_ := Aside0.mk (Kd.R_elder' (by (with_reducible repeat (first | apply Kd.R_alloc | apply Kd.R_drewN | apply Kd.R_drew)); exact HO_8.out) (Kd.R_base ho0) hb); have n1_ := Aside0.mk (Kd.R_elder' (by (with_reducible repeat (first | apply Kd.R_alloc | apply Kd.R_drewN | apply Kd.R_drew)); exact HO517.out) (Kd.R_base ho0) hb); have n2_ := Aside0.mk (Kd.R_lower (Kd.R_new' (Kd.R_new' ho0 (Kd.R_lt (by (with_reducible repeat (first | apply Kd.R_alloc | apply Kd.R_drewN | apply Kd.R_drew)); exact HO_8.out))) (Kd.R_lt (by (with_reducible repeat (first | apply Kd.R_alloc | apply Kd.R_drewN | apply Kd.R_drew)); exact HO517.out))) (below_size (by repeat (first | (with_reducible first | exact HB.out | apply below_alloc | apply pw_below_drewN | apply below_drew1) | exact HB.out)))); have n3_ := Aside0.mk (below_step (by repeat (first | (with_reducible first | exact HB.out | apply below_alloc | apply pw_below_drewN | apply below_drew1) | exact HB.out)) hb); clear HO_8; clear HO517; clear HB; have HO_8 := n0_; have HO517 := n1_; have HO521 := n2_; have HB := n3_; clear n0_ n1_ n2_ n3_; (try clear hb); (try clear hb2); (try clear hk); (try clear hi); (try clear ho0); obtain ⟨Ao42, co42, eo42⟩ := Kd.R_slice HO517.out; subst eo42) | ((with_reducible refine gate_callee (f := 11) rfl ?_); refine goesL_ (some 95) rfl rfl Try.func11 (by kernel_rfl) rfl #[.slice A0 l0.length c0, .slice Ao42 t514.length co42] rfl (by (try simp only [List.map_toArray, List.map_cons, List.map_nil]); first | done | rfl | (simp only [List.length_drop, List.length_take]; rfl)) ?_; (with_reducible refine (flow_Bounds.calls _ _ l0 _ _ t514 t522 t523 _ ?side1 ?side2 ?side3 ?side4 A38.out).mono ?_); (case side1 => repeat (first | exact (Kd.C_below HR0.out HB.out) | (with_reducible refine Kd.C_alloc ?_ _) | (with_reducible refine Kd.C_drewN ?_ _) | (with_reducible refine Kd.C_drew ?_))); (case side2 => exact HC0.out); (case side3 => repeat (first | exact (Kd.R_reads' HO517.out).2.2 | (with_reducible refine Kd.C_alloc ?_ _) | (with_reducible refine Kd.C_drewN ?_ _) | (with_reducible refine Kd.C_drew ?_))); (case side4 => exact (Kd.R_reads' HO517.out).2.1); rintro e w43 ⟨v524, rfl, ho0, hb⟩; refine ⟨_, rfl, ?_⟩; have n0_ := Aside0.mk (Kd.R_elder' (by (with_reducible repeat (first | apply Kd.R_alloc | apply Kd.R_drewN | apply Kd.R_drew)); exact HO_8.out) (Kd.R_base ho0) hb); have n1_ := Aside0.mk (Kd.R_elder' (by (with_reducible repeat (first | apply Kd.R_alloc | apply Kd.R_drewN | apply Kd.R_drew)); exact HO517.out) (Kd.R_base ho0) hb); have n2_ := Aside0.mk (Kd.R_elder' (by (with_reducible repeat (first | apply Kd.R_alloc | apply Kd.R_drewN | apply Kd.R_drew)); exact HO521.out) (Kd.R_base ho0) hb); have n3_ := Aside0.mk (Kd.R_lower (Kd.R_new' (Kd.R_new' (Kd.R_new' ho0 (Kd.R_lt (by (with_reducible repeat (first | apply Kd.R_alloc | apply Kd.R_drewN | apply Kd.R_drew)); exact HO_8.out))) (Kd.R_lt (by (with_reducible repeat (first | apply Kd.R_alloc | apply Kd.R_drewN | apply Kd.R_drew)); exact HO517.out))) (Kd.R_lt (by (with_reducible repeat (first | apply Kd.R_alloc | apply Kd.R_drewN | apply Kd.R_drew)); exact HO521.out))) (below_size (by repeat (first | (with_reducible first | exact HB.out | apply below_alloc | apply pw_below_drewN | apply below_drew1) | exact HB.out)))); have n4_ := Aside0.mk (below_step (by repeat (first | (with_reducible first | exact HB.out | apply below_alloc | apply pw_below_drewN | apply below_drew1) | exact HB.out)) hb); clear HO_8; clear HO517; clear HO521; clear HB; have HO_8 := n0_; have HO517 := n1_; have HO521 := n2_; have HO525 := n3_; have HB := n4_; clear n0_ n1_ n2_ n3_ n4_; (try clear hb); (try clear hb2); (try clear hk); (try clear hi); (try clear ho0)))
       (try simp only [Act.put, sI_, s0_, sS_])
       go_cut [105] (fun v105 wc => ∃ (kq : Nat) (x105_38 : Bool), v105 = .bool x105_38 ∧ Aside0 (cohousinglaw28_FlowKnowledge.j1 kq l0 t500 t514 t518 t519 x105_38 = some r) ∧ Aside0 (kq ≤ k1) ∧ Aside0 (Kd.R k39 39 wc w.heap.size (fun k_ => some k_ ≠ (v520 : Value).ownBlock) (.slice Ao42 t514.length co42) t514) ∧ Aside0 (Kd.R k39 39 wc w.heap.size (fun k_ => some k_ ≠ ((.slice Ao42 t514.length co42) : Value).ownBlock) v520 t518) ∧ Aside0 (Below w.heap.size w wc))
       case first =>
        have H := HC39.out
        clear HC39
        by_cases c44 : t523 = 0
        ·rw [if_pos c44] at H
         have c44b0 : (t523 == 0) = true := beq_iff_eq.mpr c44
         have c44b1 : (t523 != 0) = false := bne_eq_false_iff_eq.mpr c44
         clear c44
         (first | rw [c44b0] | (simp only [i64_w, i32_w]; rw [c44b0]) | skip)
         replace H := Option.bind_eq_some_iff.mp H
         obtain ⟨t526, A450, H⟩ := H
         replace H : (cohousinglaw28_FlowKnowledge.j1 k1 l0 t500 t514 t518 t519 (!t526)) = some r := H
         have A45 := Aside0.mk A450
         clear A450
         have H' := Aside0.mk H
         clear H
         obtain ⟨Ao46, co46, eo46⟩ := Kd.R_slice HO525.out
         subst eo46
         go_wp2_with (first | (go_at_call 15; (with_reducible refine (cohousingref28_Same.calls k1 _ _ t514 _ _ t522 t526 _ ?side1 ?side2 ?side3 ?side4 A45.out).mono ?_); (case side1 => repeat (first | exact (Kd.R_reads' HO517.out).2.2 | (with_reducible refine Kd.C_alloc ?_ _) | (with_reducible refine Kd.C_drewN ?_ _) | (with_reducible refine Kd.C_drew ?_))); (case side2 => exact (Kd.R_reads' HO517.out).2.1); (case side3 => repeat (first | exact (Kd.R_reads' HO525.out).2.2 | (with_reducible refine Kd.C_alloc ?_ _) | (with_reducible refine Kd.C_drewN ?_ _) | (with_reducible refine Kd.C_drew ?_))); (case side4 => exact (Kd.R_reads' HO525.out).2.1); rintro e w' ⟨rfl, ⟨nd, rfl⟩⟩))
         go_meet
         case rel => exact ⟨_, (!t526), (by first | rfl | (simp; done) | (simp [*]; done)), H', ⟨by have := HK1.out; first | omega | exact Nat.le_refl _⟩, ⟨by (try simp only [hl8_1]); (with_reducible repeat (first | apply Kd.R_alloc | apply Kd.R_drewN | apply Kd.R_drew)); exact Kd.R_mono HO517.out (fun _ hk => hk.1.2)⟩, ⟨by (try simp only [hl8_1]); (with_reducible repeat (first | apply Kd.R_alloc | apply Kd.R_drewN | apply Kd.R_drew)); exact Kd.R_mono HO521.out (fun _ hk => hk.1.2)⟩, ⟨by repeat (first | (with_reducible first | exact HB.out | apply below_alloc | apply pw_below_drewN | apply below_drew1) | exact HB.out)⟩⟩
        ·rw [if_neg c44] at H
         have c44b0 : (t523 == 0) = false := beq_eq_false_iff_ne.mpr c44
         have c44b1 : (t523 != 0) = true := bne_iff_ne.mpr c44
         (first | rw [c44b0] | (simp only [i64_w, i32_w]; rw [c44b0]) | skip)
         have H' := Aside0.mk H
         clear H
         go_wp2
         go_meet
         case rel => exact ⟨_, (true), (by first | rfl | (simp; done) | (simp [*]; done)), H', ⟨by have := HK1.out; first | omega | exact Nat.le_refl _⟩, ⟨by (try simp only [hl8_1]); (with_reducible repeat (first | apply Kd.R_alloc | apply Kd.R_drewN | apply Kd.R_drew)); exact Kd.R_mono HO517.out (fun _ hk => hk.1.2)⟩, ⟨by (try simp only [hl8_1]); (with_reducible repeat (first | apply Kd.R_alloc | apply Kd.R_drewN | apply Kd.R_drew)); exact Kd.R_mono HO521.out (fun _ hk => hk.1.2)⟩, ⟨by repeat (first | (with_reducible first | exact HB.out | apply below_alloc | apply pw_below_drewN | apply below_drew1) | exact HB.out)⟩⟩
       case rest =>
        clear HC39
        try clear c1
        try clear c2
        try clear p2
        try clear q2
        try clear hx2
        try clear c3
        try clear c4
        try clear p5
        try clear q5
        try clear hx5
        try clear p6
        try clear c11
        try clear c14
        try clear c14b0
        try clear c15
        try clear c15b0
        try clear c16
        try clear c17
        try clear c20
        try clear c20b0
        try clear c21
        try clear p21
        try clear q21
        try clear hx21
        try clear hf21
        try clear c28
        try clear hx28
        try clear hf28
        try clear c37
        try clear c37b0
        try clear c37b1
        try clear c44
        try clear c44b0
        try clear c44b1
        try clear hcz27_0
        try clear hcz27_1
        try clear hcz34_0
        try clear hcz34_1
        try clear hfz27_0
        try clear hfz27_1
        try clear hfz34_0
        try clear hfz34_1
        try clear hx21_0
        try clear hx21_1
        try clear hx28_0
        try clear hx28_1
        try clear hx508_0
        try clear hx508_1
        try clear hx509_0
        try clear hx509_1
        try clear hx510_0
        try clear hx510_1
        try clear hx511_0
        try clear hx511_1
        try clear p21
        try clear p508
        try clear p509
        try clear p510
        try clear p511
        try clear q21
        try clear q508
        try clear q509
        try clear q510
        try clear q511
        obtain ⟨kq, x105_38, rfl, HA, HJ38, HO_11, HO_13, HB⟩ := hcut
        cases kq with
        | zero => exact absurd HA.out (by simp [cohousinglaw28_FlowKnowledge.j1])
        | succ kj38 =>
         have H := HA.out
         clear HA
         simp only [cohousinglaw28_FlowKnowledge.j1] at H
         by_cases c47 : x105_38 = true
         ·subst c47
          have H1 : (some false) = some r := by rw [if_pos rfl] at H; exact H
          clear H
          have H := H1
          clear H1
          obtain rfl := Option.some.inj H
          go_wp2
          go_ret
          exact ⟨by first | rfl | (simp [errW_none, errW_some] <;> rfl) | (simp [*, errW_none, errW_some] <;> rfl), by repeat (first | (with_reducible first | exact HB.out | apply below_alloc | apply pw_below_drewN | apply below_drew1) | exact HB.out)⟩
         ·replace c47 := Bool.eq_false_iff.mpr c47
          subst c47
          have H1 : (if t519 = 0 then (if (t514.length : Int) = (l0.length : Int) then (cohousinglaw28_FlowKnowledge.j2 kj38 t500 t514 t518 ((t518.length : Int) != (l0.length : Int))) else (cohousinglaw28_FlowKnowledge.j2 kj38 t500 t514 t518 true)) else (if t500 = true then (some (t519 == 30)) else (some false))) = some r := by rw [if_neg (show ¬ (false = true) by decide)] at H; exact H
          clear H
          have H := H1
          clear H1
          by_cases c48 : t519 = 0
          ·rw [if_pos c48] at H
           have c48b0 : (t519 == 0) = true := beq_iff_eq.mpr c48
           have c48b1 : (t519 != 0) = false := bne_eq_false_iff_eq.mpr c48
           clear c48
           have HC49 := Aside0.mk H
           clear H
           go_upto_region 22 with (fail)
           go_cut [124] (fun v124 wc => ∃ (kq : Nat) (x124_48 : Bool), v124 = .bool x124_48 ∧ Aside0 (cohousinglaw28_FlowKnowledge.j2 kq t500 t514 t518 x124_48 = some r) ∧ Aside0 (kq ≤ kj38) ∧ Aside0 (Kd.R k39 39 wc w.heap.size (fun k_ => some k_ ≠ (v520 : Value).ownBlock) (.slice Ao42 t514.length co42) t514) ∧ Aside0 (Kd.R k39 39 wc w.heap.size (fun k_ => some k_ ≠ ((.slice Ao42 t514.length co42) : Value).ownBlock) v520 t518) ∧ Aside0 (Below w.heap.size w wc))
           case first =>
            have H := HC49.out
            clear HC49
            by_cases c50 : (t514.length : Int) = (l0.length : Int)
            ·rw [if_pos c50] at H
             have c50b0 : ((t514.length : Int) == (l0.length : Int)) = true := beq_iff_eq.mpr c50
             have c50b1 : ((t514.length : Int) != (l0.length : Int)) = false := bne_eq_false_iff_eq.mpr c50
             have c50b2 : (t514.length == l0.length) = true := by first | simpa using c50 | (simp at c50 ⊢; omega)
             clear c50
             (first | rw [c50b0] | (simp only [i64_w, i32_w]; rw [c50b0]) | skip)
             have H' := Aside0.mk H
             clear H
             obtain ⟨Ao51, co51, eo51⟩ := Kd.R_slice HO_13.out
             subst eo51
             go_wp2
             go_meet
             case rel => exact ⟨_, (((t518.length : Int) != (l0.length : Int))), (by first | rfl | (simp; done) | (simp [*]; done)), H', ⟨by have := HK1.out; have := HJ38.out; first | omega | exact Nat.le_refl _⟩, ⟨by (try simp only [hl8_1]); (with_reducible repeat (first | apply Kd.R_alloc | apply Kd.R_drewN | apply Kd.R_drew)); exact HO_11.out⟩, ⟨by (try simp only [hl8_1]); (with_reducible repeat (first | apply Kd.R_alloc | apply Kd.R_drewN | apply Kd.R_drew)); exact HO_13.out⟩, ⟨by repeat (first | (with_reducible first | exact HB.out | apply below_alloc | apply pw_below_drewN | apply below_drew1) | exact HB.out)⟩⟩
            ·rw [if_neg c50] at H
             have c50b0 : ((t514.length : Int) == (l0.length : Int)) = false := beq_eq_false_iff_ne.mpr c50
             have c50b1 : ((t514.length : Int) != (l0.length : Int)) = true := bne_iff_ne.mpr c50
             have c50b2 : (t514.length == l0.length) = false := by first | simpa using c50 | (simp at c50 ⊢; omega)
             (first | rw [c50b0] | (simp only [i64_w, i32_w]; rw [c50b0]) | skip)
             have H' := Aside0.mk H
             clear H
             go_wp2
             go_meet
             case rel => exact ⟨_, (true), (by first | rfl | (simp; done) | (simp [*]; done)), H', ⟨by have := HK1.out; have := HJ38.out; first | omega | exact Nat.le_refl _⟩, ⟨by (try simp only [hl8_1]); (with_reducible repeat (first | apply Kd.R_alloc | apply Kd.R_drewN | apply Kd.R_drew)); exact HO_11.out⟩, ⟨by (try simp only [hl8_1]); (with_reducible repeat (first | apply Kd.R_alloc | apply Kd.R_drewN | apply Kd.R_drew)); exact HO_13.out⟩, ⟨by repeat (first | (with_reducible first | exact HB.out | apply below_alloc | apply pw_below_drewN | apply below_drew1) | exact HB.out)⟩⟩
           case rest =>
            clear HC49
            try clear c1
            try clear c2
            try clear p2
            try clear q2
            try clear hx2
            try clear c3
            try clear c4
            try clear c5
            try clear p5
            try clear q5
            try clear hx5
            try clear p6
            try clear c11
            try clear c14
            try clear c14b0
            try clear c15
            try clear c15b0
            try clear c16
            try clear c17
            try clear c20
            try clear c20b0
            try clear c21
            try clear p21
            try clear q21
            try clear hx21
            try clear hf21
            try clear c28
            try clear hx28
            try clear hf28
            try clear c37
            try clear c37b0
            try clear c37b1
            try clear c44
            try clear c44b0
            try clear c44b1
            try clear c47
            try clear c48
            try clear c48b0
            try clear c48b1
            try clear c50
            try clear c50b0
            try clear c50b1
            try clear c50b2
            try clear p50
            try clear q50
            try clear hx50
            try clear p51
            try clear q51
            try clear hx51
            try clear hcz27_0
            try clear hcz27_1
            try clear hcz34_0
            try clear hcz34_1
            try clear hfz27_0
            try clear hfz27_1
            try clear hfz34_0
            try clear hfz34_1
            try clear hx21_0
            try clear hx21_1
            try clear hx28_0
            try clear hx28_1
            try clear hx508_0
            try clear hx508_1
            try clear hx509_0
            try clear hx509_1
            try clear hx510_0
            try clear hx510_1
            try clear hx511_0
            try clear hx511_1
            try clear p2
            try clear p21
            try clear p5
            try clear p508
            try clear p509
            try clear p510
            try clear p511
            try clear p6
            try clear q2
            try clear q21
            try clear q5
            try clear q508
            try clear q509
            try clear q510
            try clear q511
            obtain ⟨kq, x124_48, rfl, HA, HJ48, HO_11, HO_13, HB⟩ := hcut
            cases kq with
            | zero => exact absurd HA.out (by simp [cohousinglaw28_FlowKnowledge.j2])
            | succ kj48 =>
             have H := HA.out
             clear HA
             simp only [cohousinglaw28_FlowKnowledge.j2] at H
             by_cases c52 : x124_48 = true
             ·subst c52
              have H1 : (some false) = some r := by rw [if_pos rfl] at H; exact H
              clear H
              have H := H1
              clear H1
              obtain rfl := Option.some.inj H
              go_wp2
              go_ret
              exact ⟨by first | rfl | (simp [errW_none, errW_some] <;> rfl) | (simp [*, errW_none, errW_some] <;> rfl), by repeat (first | (with_reducible first | exact HB.out | apply below_alloc | apply pw_below_drewN | apply below_drew1) | exact HB.out)⟩
             ·replace c52 := Bool.eq_false_iff.mpr c52
              subst c52
              have H1 : (cohousinglaw28_FlowKnowledge.l1 kj48 t500 t514 t518 (t514.length : Int) 0) = some r := by rw [if_neg (show ¬ (false = true) by decide)] at H; exact H
              clear H
              have H := H1
              clear H1
              have H' := Aside0.mk H
              clear H
              go_wp2
              go_loopg [7, 127] kj48 (fun kq v7 v127 w' => ∃ (x7_4 : Bool) (x127_4 : Int), v7 = .bool x7_4 ∧ v127 = .int .i64 x127_4 ∧ Aside0 (cohousinglaw28_FlowKnowledge.l1 kq x7_4 t514 t518 (t514.length : Int) x127_4 = some r) ∧ Aside0 (kq ≤ kj48) ∧ Aside0 (Kd.R k39 39 w' w.heap.size (fun k_ => some k_ ≠ (v520 : Value).ownBlock) (.slice Ao42 t514.length co42) t514) ∧ Aside0 (Kd.R k39 39 w' w.heap.size (fun k_ => some k_ ≠ ((.slice Ao42 t514.length co42) : Value).ownBlock) v520 t518) ∧ Aside0 (Below w.heap.size w w'))
              case atStart => exact ⟨(t500), (0), (by first | rfl | (simp; done) | (simp [*]; done)), (by first | rfl | (simp; done) | (simp [*]; done)), H', ⟨Nat.le_refl _⟩, ⟨by (try simp only [hl8_1]); (with_reducible repeat (first | apply Kd.R_alloc | apply Kd.R_drewN | apply Kd.R_drew)); exact HO_11.out⟩, ⟨by (try simp only [hl8_1]); (with_reducible repeat (first | apply Kd.R_alloc | apply Kd.R_drewN | apply Kd.R_drew)); exact HO_13.out⟩, ⟨by repeat (first | (with_reducible first | exact HB.out | apply below_alloc | apply pw_below_drewN | apply below_drew1) | exact HB.out)⟩⟩
              case round =>
               clear H'
               try clear c1
               try clear c2
               try clear p2
               try clear q2
               try clear hx2
               try clear c3
               try clear c4
               try clear c5
               try clear p5
               try clear q5
               try clear hx5
               try clear p6
               try clear c11
               try clear c14
               try clear c14b0
               try clear c15
               try clear c15b0
               try clear c16
               try clear c17
               try clear c20
               try clear c20b0
               try clear c21
               try clear p21
               try clear q21
               try clear hx21
               try clear hf21
               try clear c28
               try clear hx28
               try clear hf28
               try clear c37
               try clear c37b0
               try clear c37b1
               try clear c44
               try clear c44b0
               try clear c44b1
               try clear c47
               try clear c48
               try clear c48b0
               try clear c48b1
               try clear c50
               try clear c50b0
               try clear c50b1
               try clear c50b2
               try clear p50
               try clear q50
               try clear hx50
               try clear p51
               try clear q51
               try clear hx51
               try clear c52
               try clear hcz27_0
               try clear hcz27_1
               try clear hcz34_0
               try clear hcz34_1
               try clear hfz27_0
               try clear hfz27_1
               try clear hfz34_0
               try clear hfz34_1
               try clear hx21_0
               try clear hx21_1
               try clear hx28_0
               try clear hx28_1
               try clear hx508_0
               try clear hx508_1
               try clear hx509_0
               try clear hx509_1
               try clear hx510_0
               try clear hx510_1
               try clear hx511_0
               try clear hx511_1
               try clear p2
               try clear p21
               try clear p5
               try clear p50
               try clear p508
               try clear p509
               try clear p51
               try clear p510
               try clear p511
               try clear p6
               try clear q2
               try clear q21
               try clear q5
               try clear q50
               try clear q508
               try clear q509
               try clear q51
               try clear q510
               try clear q511
               obtain ⟨x7_4, x127_4, rfl, rfl, HA, HK4, HO_11, HO_13, HB⟩ := hrel
               cases gk with
               | zero => exact absurd HA.out (by simp [cohousinglaw28_FlowKnowledge.l1])
               | succ k4 =>
                have H := HA.out
                clear HA
                simp only [cohousinglaw28_FlowKnowledge.l1] at H
                by_cases c53 : x127_4 < (t514.length : Int)
                ·rw [if_pos c53] at H
                 have c53b0 : decide (x127_4 < (t514.length : Int)) = true := decide_eq_true c53
                 clear c53
                 by_cases c54 : x7_4 = true
                 ·subst c54
                  have H1 : (if 0 ≤ x127_4 then (if x127_4 < (t514.length : Int) then (if x127_4 < (t518.length : Int) then (if ((rd_T39 t514 x127_4).f0) ≤ ((rd_T39 t518 x127_4).f0) then (if ((rd_T39 t518 x127_4).f0) ≤ ((rd_T39 t518 x127_4).f1) then (cohousinglaw28_FlowKnowledge.l1 k4 (decide (((rd_T39 t518 x127_4).f1) ≤ ((rd_T39 t514 x127_4).f1))) t514 t518 (t514.length : Int) (wrap64 (x127_4 + 1))) else (cohousinglaw28_FlowKnowledge.l1 k4 false t514 t518 (t514.length : Int) (wrap64 (x127_4 + 1)))) else (cohousinglaw28_FlowKnowledge.l1 k4 false t514 t518 (t514.length : Int) (wrap64 (x127_4 + 1)))) else (none)) else (none)) else (none)) = some r := by rw [if_pos rfl] at H; exact H
                  clear H
                  have H := H1
                  clear H1
                  by_cases c55 : 0 ≤ x127_4
                  ·rw [if_pos c55] at H
                   have c55b0 : decide (0 ≤ x127_4) = true := decide_eq_true c55
                   clear c55
                   by_cases c56 : x127_4 < (t514.length : Int)
                   ·rw [if_pos c56] at H
                    have c56b0 : decide (x127_4 < (t514.length : Int)) = true := decide_eq_true c56
                    clear c56
                    by_cases c57 : x127_4 < (t518.length : Int)
                    ·rw [if_pos c57] at H
                     have c57b0 : decide (x127_4 < (t518.length : Int)) = true := decide_eq_true c57
                     clear c57
                     by_cases c58 : ((rd_T39 t514 x127_4).f0) ≤ ((rd_T39 t518 x127_4).f0)
                     ·rw [if_pos c58] at H
                      have c58b0 : decide (((rd_T39 t514 x127_4).f0) ≤ ((rd_T39 t518 x127_4).f0)) = true := decide_eq_true c58
                      clear c58
                      by_cases c59 : ((rd_T39 t518 x127_4).f0) ≤ ((rd_T39 t518 x127_4).f1)
                      ·rw [if_pos c59] at H
                       have c59b0 : decide (((rd_T39 t518 x127_4).f0) ≤ ((rd_T39 t518 x127_4).f1)) = true := decide_eq_true c59
                       clear c59
                       have H' := Aside0.mk H
                       clear H
                       try go_wp2
                       have n0_ := Aside0.mk (Kd.R_drew HO_11.out)
                       have n1_ := Aside0.mk (Kd.R_drew HO_13.out)
                       have n2_ := Aside0.mk (below_drew1 HB.out)
                       clear HO_11
                       clear HO_13
                       clear HB
                       have HO_11 := n0_
                       have HO_13 := n1_
                       have HB := n2_
                       clear n0_ n1_ n2_
                       have p527 : 0 ≤ (x127_4 : Int) := of_decide_eq_true (by first | (with_reducible assumption) | assumption)
                       have q527 : x127_4 < (t514.length : Int) := of_decide_eq_true (by first | (with_reducible assumption) | assumption)
                       obtain ⟨ad527, e527, hx527_0, hx527_1⟩ := at_T39 (Kd.R_reads' HO_11.out).2.2 x127_4 p527 q527
                       cases e527
                       replace p527 := eq_true p527
                       replace q527 := eq_true q527
                       obtain ⟨Ao61, co61, eo61⟩ := Kd.R_slice HO_13.out
                       (first | subst eo61 | (injection eo61 with f1_ f2_ f3_; have f4_ := f1_.symm; have f5_ := f3_.symm; clear f1_ f2_ f3_; subst f4_; subst f5_))
                       have p528 : 0 ≤ (x127_4 : Int) := of_decide_eq_true (by first | (with_reducible assumption) | assumption)
                       have q528 : x127_4 < (t518.length : Int) := of_decide_eq_true (by first | (with_reducible assumption) | assumption)
                       obtain ⟨ad528, e528, hx528_0, hx528_1⟩ := at_T39 (Kd.R_reads' HO_13.out).2.2 x127_4 p528 q528
                       cases e528
                       replace p528 := eq_true p528
                       replace q528 := eq_true q528
                       have p529 : 0 ≤ (x127_4 : Int) := of_decide_eq_true (by first | (with_reducible assumption) | assumption)
                       have q529 : x127_4 < (t518.length : Int) := of_decide_eq_true (by first | (with_reducible assumption) | assumption)
                       obtain ⟨ad529, e529, hx529_0, hx529_1⟩ := at_T39 (Kd.R_reads' HO_13.out).2.2 x127_4 p529 q529
                       obtain rfl : ad528 = ad529 := (by injection e529)
                       replace p529 := eq_true p529
                       replace q529 := eq_true q529
                       have p530 : 0 ≤ (x127_4 : Int) := of_decide_eq_true (by first | (with_reducible assumption) | assumption)
                       have q530 : x127_4 < (t518.length : Int) := of_decide_eq_true (by first | (with_reducible assumption) | assumption)
                       obtain ⟨ad530, e530, hx530_0, hx530_1⟩ := at_T39 (Kd.R_reads' HO_13.out).2.2 x127_4 p530 q530
                       obtain rfl : ad528 = ad530 := (by injection e530)
                       replace p530 := eq_true p530
                       replace q530 := eq_true q530
                       have p531 : 0 ≤ (x127_4 : Int) := of_decide_eq_true (by first | (with_reducible assumption) | assumption)
                       have q531 : x127_4 < (t518.length : Int) := of_decide_eq_true (by first | (with_reducible assumption) | assumption)
                       obtain ⟨ad531, e531, hx531_0, hx531_1⟩ := at_T39 (Kd.R_reads' HO_13.out).2.2 x127_4 p531 q531
                       obtain rfl : ad528 = ad531 := (by injection e531)
                       replace p531 := eq_true p531
                       replace q531 := eq_true q531
                       have p532 : 0 ≤ (x127_4 : Int) := of_decide_eq_true (by first | (with_reducible assumption) | assumption)
                       have q532 : x127_4 < (t514.length : Int) := of_decide_eq_true (by first | (with_reducible assumption) | assumption)
                       obtain ⟨ad532, e532, hx532_0, hx532_1⟩ := at_T39 (Kd.R_reads' HO_11.out).2.2 x127_4 p532 q532
                       obtain rfl : ad527 = ad532 := (by injection e532)
                       replace p532 := eq_true p532
                       replace q532 := eq_true q532
                       refine start_ (n := 41) (S := fun w' => w'.cell? (ad527.add ((x127_4).toNat * 2)) = some (.int .i64 ((rd_T39 t514 x127_4).f0)) ∧ w'.cell? ⟨(ad527.add ((x127_4).toNat * 2)).block, (ad527.add ((x127_4).toNat * 2)).off + 1, none⟩ = some (.int .i64 ((rd_T39 t514 x127_4).f1)) ∧ w'.cell? (ad528.add ((x127_4).toNat * 2)) = some (.int .i64 ((rd_T39 t518 x127_4).f0)) ∧ w'.cell? ⟨(ad528.add ((x127_4).toNat * 2)).block, (ad528.add ((x127_4).toNat * 2)).off + 1, none⟩ = some (.int .i64 ((rd_T39 t518 x127_4).f1)) ∧ w'.cell? (ad528.add ((x127_4).toNat * 2)) = some (.int .i64 ((rd_T39 t518 x127_4).f0)) ∧ w'.cell? ⟨(ad528.add ((x127_4).toNat * 2)).block, (ad528.add ((x127_4).toNat * 2)).off + 1, none⟩ = some (.int .i64 ((rd_T39 t518 x127_4).f1)) ∧ w'.cell? (ad528.add ((x127_4).toNat * 2)) = some (.int .i64 ((rd_T39 t518 x127_4).f0)) ∧ w'.cell? ⟨(ad528.add ((x127_4).toNat * 2)).block, (ad528.add ((x127_4).toNat * 2)).off + 1, none⟩ = some (.int .i64 ((rd_T39 t518 x127_4).f1)) ∧ w'.cell? (ad528.add ((x127_4).toNat * 2)) = some (.int .i64 ((rd_T39 t518 x127_4).f0)) ∧ w'.cell? ⟨(ad528.add ((x127_4).toNat * 2)).block, (ad528.add ((x127_4).toNat * 2)).off + 1, none⟩ = some (.int .i64 ((rd_T39 t518 x127_4).f1)) ∧ w'.cell? (ad527.add ((x127_4).toNat * 2)) = some (.int .i64 ((rd_T39 t514 x127_4).f0)) ∧ w'.cell? ⟨(ad527.add ((x127_4).toNat * 2)).block, (ad527.add ((x127_4).toNat * 2)).off + 1, none⟩ = some (.int .i64 ((rd_T39 t514 x127_4).f1))) (ds := []) #[n_, n_, n_, n_, n_, n_, n_, n_, n_, n_, n_, n_, n_, n_, n_, n_, n_, n_, n_, n_, n_, n_, n_, n_, n_, n_, n_, n_, n_, n_, n_, n_, n_, n_, n_, n_, n_, n_, n_, n_, n_] (by kernel_rfl) rfl rfl ⟨hx527_0, hx527_1, hx528_0, hx528_1, hx529_0, hx529_1, hx530_0, hx530_1, hx531_0, hx531_1, hx532_0, hx532_1⟩ (fun hHeld => ?_); refine with_tabW cohousinglaw28_FlowKnowledge.tab27 cohousinglaw28_FlowKnowledge.bits27 (fun HT_ HW_ => ?_)
                       generalize wr.drew = w60 at HO_11 HO_13 HB hx527_0 hx527_1 hx528_0 hx528_1 hx529_0 hx529_1 hx530_0 hx530_1 hx531_0 hx531_1 hx532_0 hx532_1 hHeld ⊢
                       refine pure_ (i := 0) (N := some 130) (v := ?_) (a' := ?_) #[y_, n_, n_, n_, n_, n_, n_, n_, n_, n_, n_, n_, n_, n_, n_, n_, n_, n_, n_, n_, n_, n_, n_, n_, n_, n_, n_, n_, n_, n_, n_, n_, n_, n_, n_, n_, n_, n_, n_, n_, n_] rfl rfl (any_of HT_.out (by kernel_rfl)) (fun _ _ _ h => h) (Or.inl ⟨by rfl, ?_⟩) ?_ ?_
                       rotate_left
                       ·intro w'
                        go_simp
                        with_reducible rfl
                       rotate_left
                       ·simp only [Act.put, sI_, s0_, sS_, i64_w, i32_w]
                        rfl
                       refine pure_ (i := 1) (N := some 131) (v := ?_) (a' := ?_) #[y_, y_, n_, n_, n_, n_, n_, n_, n_, n_, n_, n_, n_, n_, n_, n_, n_, n_, n_, n_, n_, n_, n_, n_, n_, n_, n_, n_, n_, n_, n_, n_, n_, n_, n_, n_, n_, n_, n_, n_, n_] rfl rfl (any_of HT_.out (by kernel_rfl)) (fun _ _ _ h => h) (Or.inl ⟨by rfl, ?_⟩) ?_ ?_
                       rotate_left
                       ·intro w'
                        go_simp
                        with_reducible rfl
                       rotate_left
                       ·simp only [Act.put, sI_, s0_, sS_, i64_w, i32_w]
                        rfl
                       refine pure_ (i := 2) (N := some 132) (v := ?_) (a' := ?_) #[y_, y_, y_, n_, n_, n_, n_, n_, n_, n_, n_, n_, n_, n_, n_, n_, n_, n_, n_, n_, n_, n_, n_, n_, n_, n_, n_, n_, n_, n_, n_, n_, n_, n_, n_, n_, n_, n_, n_, n_, n_] rfl rfl (any_of HT_.out (by kernel_rfl)) (fun _ _ _ h => h) (Or.inl ⟨by rfl, ?_⟩) ?_ ?_
                       rotate_left
                       ·intro w'
                        go_simp
                        with_reducible rfl
                       rotate_left
                       ·simp only [Act.put, sI_, s0_, sS_, i64_w, i32_w]
                        rfl
                       refine pure_ (i := 3) (N := some 133) (v := ?_) (a' := ?_) #[y_, y_, y_, y_, n_, n_, n_, n_, n_, n_, n_, n_, n_, n_, n_, n_, n_, n_, n_, n_, n_, n_, n_, n_, n_, n_, n_, n_, n_, n_, n_, n_, n_, n_, n_, n_, n_, n_, n_, n_, n_] rfl rfl (any_of HT_.out (by kernel_rfl)) (fun _ _ _ h => h) (Or.inl ⟨by rfl, ?_⟩) ?_ ?_
                       rotate_left
                       ·intro w'
                        go_simp
                        with_reducible rfl
                       rotate_left
                       ·simp only [Act.put, sI_, s0_, sS_, i64_w, i32_w]
                        rfl
                       refine pure_ (i := 4) (N := some 134) (v := ?_) (a' := ?_) #[y_, y_, y_, y_, y_, n_, n_, n_, n_, n_, n_, n_, n_, n_, n_, n_, n_, n_, n_, n_, n_, n_, n_, n_, n_, n_, n_, n_, n_, n_, n_, n_, n_, n_, n_, n_, n_, n_, n_, n_, n_] rfl rfl (any_of HT_.out (by kernel_rfl)) (fun _ _ _ h => h) (Or.inl ⟨by rfl, ?_⟩) ?_ ?_
                       rotate_left
                       ·intro w'
                        go_simp
                        with_reducible rfl
                       rotate_left
                       ·simp only [Act.put, sI_, s0_, sS_, i64_w, i32_w]
                        rfl
                       refine pure_ (i := 5) (N := some 135) (v := ?_) (a' := ?_) #[y_, y_, y_, y_, y_, y_, n_, n_, n_, n_, n_, n_, n_, n_, n_, n_, n_, n_, n_, n_, n_, n_, n_, n_, n_, n_, n_, n_, n_, n_, n_, n_, n_, n_, n_, n_, n_, n_, n_, n_, n_] rfl rfl (any_of HT_.out (by kernel_rfl)) (fun _ _ _ h => h) (Or.inl ⟨by rfl, ?_⟩) ?_ ?_
                       rotate_left
                       ·intro w'
                        go_simp
                        with_reducible rfl
                       rotate_left
                       ·simp only [Act.put, sI_, s0_, sS_, i64_w, i32_w]
                        rfl
                       refine pure_ (i := 7) (N := some 137) (v := ?_) (a' := ?_) #[y_, y_, y_, y_, y_, y_, n_, y_, n_, n_, n_, n_, n_, n_, n_, n_, n_, n_, n_, n_, n_, n_, n_, n_, n_, n_, n_, n_, n_, n_, n_, n_, n_, n_, n_, n_, n_, n_, n_, n_, n_] rfl rfl (any_of HT_.out (by kernel_rfl)) (fun _ _ _ h => h) (Or.inl ⟨by rfl, ?_⟩) ?_ ?_
                       rotate_left
                       ·intro w'
                        go_simp
                        with_reducible rfl
                       rotate_left
                       ·simp only [Act.put, sI_, s0_, sS_, i64_w, i32_w]
                        rfl
                       refine pure_ (i := 8) (N := some 138) (v := ?_) (a' := ?_) #[y_, y_, y_, y_, y_, y_, n_, y_, y_, n_, n_, n_, n_, n_, n_, n_, n_, n_, n_, n_, n_, n_, n_, n_, n_, n_, n_, n_, n_, n_, n_, n_, n_, n_, n_, n_, n_, n_, n_, n_, n_] rfl rfl (any_of HT_.out (by kernel_rfl)) (fun _ _ _ h => h) (Or.inl ⟨by rfl, ?_⟩) ?_ ?_
                       rotate_left
                       ·intro w'
                        go_simp
                        with_reducible rfl
                       rotate_left
                       ·simp only [Act.put, sI_, s0_, sS_, i64_w, i32_w]
                        rfl
                       refine pure_ (i := 9) (N := some 139) (v := ?_) (a' := ?_) #[y_, y_, y_, y_, y_, y_, n_, y_, y_, y_, n_, n_, n_, n_, n_, n_, n_, n_, n_, n_, n_, n_, n_, n_, n_, n_, n_, n_, n_, n_, n_, n_, n_, n_, n_, n_, n_, n_, n_, n_, n_] rfl rfl (any_of HT_.out (by kernel_rfl)) (fun _ _ _ h => h) (Or.inl ⟨by rfl, ?_⟩) ?_ ?_
                       rotate_left
                       ·intro w'
                        go_simp
                        with_reducible rfl
                       rotate_left
                       ·simp only [Act.put, sI_, s0_, sS_, i64_w, i32_w]
                        rfl
                       refine pure_ (i := 10) (N := some 140) (v := ?_) (a' := ?_) #[y_, y_, y_, y_, y_, y_, n_, y_, y_, y_, y_, n_, n_, n_, n_, n_, n_, n_, n_, n_, n_, n_, n_, n_, n_, n_, n_, n_, n_, n_, n_, n_, n_, n_, n_, n_, n_, n_, n_, n_, n_] rfl rfl (any_of HT_.out (by kernel_rfl)) (fun _ _ _ h => h) (Or.inl ⟨by rfl, ?_⟩) ?_ ?_
                       rotate_left
                       ·intro w'
                        go_simp
                        with_reducible rfl
                       rotate_left
                       ·simp only [Act.put, sI_, s0_, sS_, i64_w, i32_w]
                        rfl
                       refine take_ (i := 6) (N := some 136) (v := ?_) (a' := ?_) #[y_, y_, y_, y_, y_, y_, y_, y_, y_, y_, y_, n_, n_, n_, n_, n_, n_, n_, n_, n_, n_, n_, n_, n_, n_, n_, n_, n_, n_, n_, n_, n_, n_, n_, n_, n_, n_, n_, n_, n_, n_] rfl rfl (take_ofW HT_.out HW_.out (by kernel_rfl)) (fun _ _ _ h => h) (Or.inl ⟨by rfl, ?_⟩) hHeld ?_ ?_
                       rotate_left
                       ·rintro w' ⟨s0, s1, s2, s3, s4, s5, s6, s7, s8, s9, s10, s11⟩
                        go_simp
                        with_reducible rfl
                       rotate_left
                       ·simp only [Act.put, sI_, s0_, sS_, i64_w, i32_w]
                        rfl
                       refine take_ (i := 11) (N := some 141) (v := ?_) (a' := ?_) #[y_, y_, y_, y_, y_, y_, y_, y_, y_, y_, y_, y_, n_, n_, n_, n_, n_, n_, n_, n_, n_, n_, n_, n_, n_, n_, n_, n_, n_, n_, n_, n_, n_, n_, n_, n_, n_, n_, n_, n_, n_] rfl rfl (take_ofW HT_.out HW_.out (by kernel_rfl)) (fun _ _ _ h => h) (Or.inl ⟨by rfl, ?_⟩) hHeld ?_ ?_
                       rotate_left
                       ·rintro w' ⟨s0, s1, s2, s3, s4, s5, s6, s7, s8, s9, s10, s11⟩
                        go_simp
                        with_reducible rfl
                       rotate_left
                       ·simp only [Act.put, sI_, s0_, sS_, i64_w, i32_w]
                        rfl
                       refine pure_ (i := 12) (N := some 142) (v := ?_) (a' := ?_) #[y_, y_, y_, y_, y_, y_, y_, y_, y_, y_, y_, y_, y_, n_, n_, n_, n_, n_, n_, n_, n_, n_, n_, n_, n_, n_, n_, n_, n_, n_, n_, n_, n_, n_, n_, n_, n_, n_, n_, n_, n_] rfl rfl (any_of HT_.out (by kernel_rfl)) (fun _ _ _ h => h) (Or.inl ⟨by rfl, ?_⟩) ?_ ?_
                       rotate_left
                       ·intro w'
                        go_simp
                        with_reducible rfl
                       rotate_left
                       ·simp only [Act.put, sI_, s0_, sS_, i64_w, i32_w]
                        rfl
                       refine pure_ (i := 13) (N := some 143) (v := ?_) (a' := ?_) #[y_, y_, y_, y_, y_, y_, y_, y_, y_, y_, y_, y_, y_, y_, n_, n_, n_, n_, n_, n_, n_, n_, n_, n_, n_, n_, n_, n_, n_, n_, n_, n_, n_, n_, n_, n_, n_, n_, n_, n_, n_] rfl rfl (any_of HT_.out (by kernel_rfl)) (fun _ _ _ h => h) (Or.inl ⟨by rfl, ?_⟩) ?_ ?_
                       rotate_left
                       ·intro w'
                        go_simp
                        with_reducible rfl
                       rotate_left
                       ·simp only [Act.put, sI_, s0_, sS_, i64_w, i32_w]
                        rfl
                       refine pure_ (i := 14) (N := some 144) (v := ?_) (a' := ?_) #[y_, y_, y_, y_, y_, y_, y_, y_, y_, y_, y_, y_, y_, y_, y_, n_, n_, n_, n_, n_, n_, n_, n_, n_, n_, n_, n_, n_, n_, n_, n_, n_, n_, n_, n_, n_, n_, n_, n_, n_, n_] rfl rfl (any_of HT_.out (by kernel_rfl)) (fun _ _ _ h => h) (Or.inl ⟨by rfl, ?_⟩) ?_ ?_
                       rotate_left
                       ·intro w'
                        go_simp
                        with_reducible rfl
                       rotate_left
                       ·simp only [Act.put, sI_, s0_, sS_, i64_w, i32_w]
                        rfl
                       refine pure_ (i := 15) (N := some 145) (v := ?_) (a' := ?_) #[y_, y_, y_, y_, y_, y_, y_, y_, y_, y_, y_, y_, y_, y_, y_, y_, n_, n_, n_, n_, n_, n_, n_, n_, n_, n_, n_, n_, n_, n_, n_, n_, n_, n_, n_, n_, n_, n_, n_, n_, n_] rfl rfl (any_of HT_.out (by kernel_rfl)) (fun _ _ _ h => h) (Or.inl ⟨by rfl, ?_⟩) ?_ ?_
                       rotate_left
                       ·intro w'
                        go_simp
                        with_reducible rfl
                       rotate_left
                       ·simp only [Act.put, sI_, s0_, sS_, i64_w, i32_w]
                        rfl
                       refine pure_ (i := 16) (N := some 146) (v := ?_) (a' := ?_) #[y_, y_, y_, y_, y_, y_, y_, y_, y_, y_, y_, y_, y_, y_, y_, y_, y_, n_, n_, n_, n_, n_, n_, n_, n_, n_, n_, n_, n_, n_, n_, n_, n_, n_, n_, n_, n_, n_, n_, n_, n_] rfl rfl (any_of HT_.out (by kernel_rfl)) (fun _ _ _ h => h) (Or.inl ⟨by rfl, ?_⟩) ?_ ?_
                       rotate_left
                       ·intro w'
                        go_simp
                        with_reducible rfl
                       rotate_left
                       ·simp only [Act.put, sI_, s0_, sS_, i64_w, i32_w]
                        rfl
                       refine pure_ (i := 17) (N := some 147) (v := ?_) (a' := ?_) #[y_, y_, y_, y_, y_, y_, y_, y_, y_, y_, y_, y_, y_, y_, y_, y_, y_, y_, n_, n_, n_, n_, n_, n_, n_, n_, n_, n_, n_, n_, n_, n_, n_, n_, n_, n_, n_, n_, n_, n_, n_] rfl rfl (any_of HT_.out (by kernel_rfl)) (fun _ _ _ h => h) (Or.inl ⟨by rfl, ?_⟩) ?_ ?_
                       rotate_left
                       ·intro w'
                        go_simp
                        with_reducible rfl
                       rotate_left
                       ·simp only [Act.put, sI_, s0_, sS_, i64_w, i32_w]
                        rfl
                       refine pure_ (i := 18) (N := some 148) (v := ?_) (a' := ?_) #[y_, y_, y_, y_, y_, y_, y_, y_, y_, y_, y_, y_, y_, y_, y_, y_, y_, y_, y_, n_, n_, n_, n_, n_, n_, n_, n_, n_, n_, n_, n_, n_, n_, n_, n_, n_, n_, n_, n_, n_, n_] rfl rfl (any_of HT_.out (by kernel_rfl)) (fun _ _ _ h => h) (Or.inl ⟨by rfl, ?_⟩) ?_ ?_
                       rotate_left
                       ·intro w'
                        go_simp
                        with_reducible rfl
                       rotate_left
                       ·simp only [Act.put, sI_, s0_, sS_, i64_w, i32_w]
                        rfl
                       refine pure_ (i := 20) (N := some 150) (v := ?_) (a' := ?_) #[y_, y_, y_, y_, y_, y_, y_, y_, y_, y_, y_, y_, y_, y_, y_, y_, y_, y_, y_, n_, y_, n_, n_, n_, n_, n_, n_, n_, n_, n_, n_, n_, n_, n_, n_, n_, n_, n_, n_, n_, n_] rfl rfl (any_of HT_.out (by kernel_rfl)) (fun _ _ _ h => h) (Or.inl ⟨by rfl, ?_⟩) ?_ ?_
                       rotate_left
                       ·intro w'
                        go_simp
                        with_reducible rfl
                       rotate_left
                       ·simp only [Act.put, sI_, s0_, sS_, i64_w, i32_w]
                        rfl
                       refine pure_ (i := 21) (N := some 151) (v := ?_) (a' := ?_) #[y_, y_, y_, y_, y_, y_, y_, y_, y_, y_, y_, y_, y_, y_, y_, y_, y_, y_, y_, n_, y_, y_, n_, n_, n_, n_, n_, n_, n_, n_, n_, n_, n_, n_, n_, n_, n_, n_, n_, n_, n_] rfl rfl (any_of HT_.out (by kernel_rfl)) (fun _ _ _ h => h) (Or.inl ⟨by rfl, ?_⟩) ?_ ?_
                       rotate_left
                       ·intro w'
                        go_simp
                        with_reducible rfl
                       rotate_left
                       ·simp only [Act.put, sI_, s0_, sS_, i64_w, i32_w]
                        rfl
                       refine pure_ (i := 22) (N := some 152) (v := ?_) (a' := ?_) #[y_, y_, y_, y_, y_, y_, y_, y_, y_, y_, y_, y_, y_, y_, y_, y_, y_, y_, y_, n_, y_, y_, y_, n_, n_, n_, n_, n_, n_, n_, n_, n_, n_, n_, n_, n_, n_, n_, n_, n_, n_] rfl rfl (any_of HT_.out (by kernel_rfl)) (fun _ _ _ h => h) (Or.inl ⟨by rfl, ?_⟩) ?_ ?_
                       rotate_left
                       ·intro w'
                        go_simp
                        with_reducible rfl
                       rotate_left
                       ·simp only [Act.put, sI_, s0_, sS_, i64_w, i32_w]
                        rfl
                       refine pure_ (i := 23) (N := some 153) (v := ?_) (a' := ?_) #[y_, y_, y_, y_, y_, y_, y_, y_, y_, y_, y_, y_, y_, y_, y_, y_, y_, y_, y_, n_, y_, y_, y_, y_, n_, n_, n_, n_, n_, n_, n_, n_, n_, n_, n_, n_, n_, n_, n_, n_, n_] rfl rfl (any_of HT_.out (by kernel_rfl)) (fun _ _ _ h => h) (Or.inl ⟨by rfl, ?_⟩) ?_ ?_
                       rotate_left
                       ·intro w'
                        go_simp
                        with_reducible rfl
                       rotate_left
                       ·simp only [Act.put, sI_, s0_, sS_, i64_w, i32_w]
                        rfl
                       refine take_ (i := 19) (N := some 149) (v := ?_) (a' := ?_) #[y_, y_, y_, y_, y_, y_, y_, y_, y_, y_, y_, y_, y_, y_, y_, y_, y_, y_, y_, y_, y_, y_, y_, y_, n_, n_, n_, n_, n_, n_, n_, n_, n_, n_, n_, n_, n_, n_, n_, n_, n_] rfl rfl (take_ofW HT_.out HW_.out (by kernel_rfl)) (fun _ _ _ h => h) (Or.inl ⟨by rfl, ?_⟩) hHeld ?_ ?_
                       rotate_left
                       ·rintro w' ⟨s0, s1, s2, s3, s4, s5, s6, s7, s8, s9, s10, s11⟩
                        go_simp
                        with_reducible rfl
                       rotate_left
                       ·simp only [Act.put, sI_, s0_, sS_, i64_w, i32_w]
                        rfl
                       refine take_ (i := 24) (N := some 154) (v := ?_) (a' := ?_) #[y_, y_, y_, y_, y_, y_, y_, y_, y_, y_, y_, y_, y_, y_, y_, y_, y_, y_, y_, y_, y_, y_, y_, y_, y_, n_, n_, n_, n_, n_, n_, n_, n_, n_, n_, n_, n_, n_, n_, n_, n_] rfl rfl (take_ofW HT_.out HW_.out (by kernel_rfl)) (fun _ _ _ h => h) (Or.inl ⟨by rfl, ?_⟩) hHeld ?_ ?_
                       rotate_left
                       ·rintro w' ⟨s0, s1, s2, s3, s4, s5, s6, s7, s8, s9, s10, s11⟩
                        go_simp
                        with_reducible rfl
                       rotate_left
                       ·simp only [Act.put, sI_, s0_, sS_, i64_w, i32_w]
                        rfl
                       refine pure_ (i := 25) (N := some 155) (v := ?_) (a' := ?_) #[y_, y_, y_, y_, y_, y_, y_, y_, y_, y_, y_, y_, y_, y_, y_, y_, y_, y_, y_, y_, y_, y_, y_, y_, y_, y_, n_, n_, n_, n_, n_, n_, n_, n_, n_, n_, n_, n_, n_, n_, n_] rfl rfl (any_of HT_.out (by kernel_rfl)) (fun _ _ _ h => h) (Or.inl ⟨by rfl, ?_⟩) ?_ ?_
                       rotate_left
                       ·intro w'
                        go_simp
                        with_reducible rfl
                       rotate_left
                       ·simp only [Act.put, sI_, s0_, sS_, i64_w, i32_w]
                        rfl
                       refine pure_ (i := 26) (N := some 156) (v := ?_) (a' := ?_) #[y_, y_, y_, y_, y_, y_, y_, y_, y_, y_, y_, y_, y_, y_, y_, y_, y_, y_, y_, y_, y_, y_, y_, y_, y_, y_, y_, n_, n_, n_, n_, n_, n_, n_, n_, n_, n_, n_, n_, n_, n_] rfl rfl (any_of HT_.out (by kernel_rfl)) (fun _ _ _ h => h) (Or.inl ⟨by rfl, ?_⟩) ?_ ?_
                       rotate_left
                       ·intro w'
                        go_simp
                        with_reducible rfl
                       rotate_left
                       ·simp only [Act.put, sI_, s0_, sS_, i64_w, i32_w]
                        rfl
                       refine pure_ (i := 27) (N := some 157) (v := ?_) (a' := ?_) #[y_, y_, y_, y_, y_, y_, y_, y_, y_, y_, y_, y_, y_, y_, y_, y_, y_, y_, y_, y_, y_, y_, y_, y_, y_, y_, y_, y_, n_, n_, n_, n_, n_, n_, n_, n_, n_, n_, n_, n_, n_] rfl rfl (any_of HT_.out (by kernel_rfl)) (fun _ _ _ h => h) (Or.inl ⟨by rfl, ?_⟩) ?_ ?_
                       rotate_left
                       ·intro w'
                        go_simp
                        with_reducible rfl
                       rotate_left
                       ·simp only [Act.put, sI_, s0_, sS_, i64_w, i32_w]
                        rfl
                       refine pure_ (i := 28) (N := some 158) (v := ?_) (a' := ?_) #[y_, y_, y_, y_, y_, y_, y_, y_, y_, y_, y_, y_, y_, y_, y_, y_, y_, y_, y_, y_, y_, y_, y_, y_, y_, y_, y_, y_, y_, n_, n_, n_, n_, n_, n_, n_, n_, n_, n_, n_, n_] rfl rfl (any_of HT_.out (by kernel_rfl)) (fun _ _ _ h => h) (Or.inl ⟨by rfl, ?_⟩) ?_ ?_
                       rotate_left
                       ·intro w'
                        go_simp
                        with_reducible rfl
                       rotate_left
                       ·simp only [Act.put, sI_, s0_, sS_, i64_w, i32_w]
                        rfl
                       refine pure_ (i := 29) (N := some 159) (v := ?_) (a' := ?_) #[y_, y_, y_, y_, y_, y_, y_, y_, y_, y_, y_, y_, y_, y_, y_, y_, y_, y_, y_, y_, y_, y_, y_, y_, y_, y_, y_, y_, y_, y_, n_, n_, n_, n_, n_, n_, n_, n_, n_, n_, n_] rfl rfl (any_of HT_.out (by kernel_rfl)) (fun _ _ _ h => h) (Or.inl ⟨by rfl, ?_⟩) ?_ ?_
                       rotate_left
                       ·intro w'
                        go_simp
                        with_reducible rfl
                       rotate_left
                       ·simp only [Act.put, sI_, s0_, sS_, i64_w, i32_w]
                        rfl
                       refine pure_ (i := 30) (N := some 160) (v := ?_) (a' := ?_) #[y_, y_, y_, y_, y_, y_, y_, y_, y_, y_, y_, y_, y_, y_, y_, y_, y_, y_, y_, y_, y_, y_, y_, y_, y_, y_, y_, y_, y_, y_, y_, n_, n_, n_, n_, n_, n_, n_, n_, n_, n_] rfl rfl (any_of HT_.out (by kernel_rfl)) (fun _ _ _ h => h) (Or.inl ⟨by rfl, ?_⟩) ?_ ?_
                       rotate_left
                       ·intro w'
                        go_simp
                        with_reducible rfl
                       rotate_left
                       ·simp only [Act.put, sI_, s0_, sS_, i64_w, i32_w]
                        rfl
                       refine pure_ (i := 31) (N := some 161) (v := ?_) (a' := ?_) #[y_, y_, y_, y_, y_, y_, y_, y_, y_, y_, y_, y_, y_, y_, y_, y_, y_, y_, y_, y_, y_, y_, y_, y_, y_, y_, y_, y_, y_, y_, y_, y_, n_, n_, n_, n_, n_, n_, n_, n_, n_] rfl rfl (any_of HT_.out (by kernel_rfl)) (fun _ _ _ h => h) (Or.inl ⟨by rfl, ?_⟩) ?_ ?_
                       rotate_left
                       ·intro w'
                        go_simp
                        with_reducible rfl
                       rotate_left
                       ·simp only [Act.put, sI_, s0_, sS_, i64_w, i32_w]
                        rfl
                       refine pure_ (i := 33) (N := some 163) (v := ?_) (a' := ?_) #[y_, y_, y_, y_, y_, y_, y_, y_, y_, y_, y_, y_, y_, y_, y_, y_, y_, y_, y_, y_, y_, y_, y_, y_, y_, y_, y_, y_, y_, y_, y_, y_, n_, y_, n_, n_, n_, n_, n_, n_, n_] rfl rfl (any_of HT_.out (by kernel_rfl)) (fun _ _ _ h => h) (Or.inl ⟨by rfl, ?_⟩) ?_ ?_
                       rotate_left
                       ·intro w'
                        go_simp
                        with_reducible rfl
                       rotate_left
                       ·simp only [Act.put, sI_, s0_, sS_, i64_w, i32_w]
                        rfl
                       refine pure_ (i := 34) (N := some 164) (v := ?_) (a' := ?_) #[y_, y_, y_, y_, y_, y_, y_, y_, y_, y_, y_, y_, y_, y_, y_, y_, y_, y_, y_, y_, y_, y_, y_, y_, y_, y_, y_, y_, y_, y_, y_, y_, n_, y_, y_, n_, n_, n_, n_, n_, n_] rfl rfl (any_of HT_.out (by kernel_rfl)) (fun _ _ _ h => h) (Or.inl ⟨by rfl, ?_⟩) ?_ ?_
                       rotate_left
                       ·intro w'
                        go_simp
                        with_reducible rfl
                       rotate_left
                       ·simp only [Act.put, sI_, s0_, sS_, i64_w, i32_w]
                        rfl
                       refine pure_ (i := 35) (N := some 165) (v := ?_) (a' := ?_) #[y_, y_, y_, y_, y_, y_, y_, y_, y_, y_, y_, y_, y_, y_, y_, y_, y_, y_, y_, y_, y_, y_, y_, y_, y_, y_, y_, y_, y_, y_, y_, y_, n_, y_, y_, y_, n_, n_, n_, n_, n_] rfl rfl (any_of HT_.out (by kernel_rfl)) (fun _ _ _ h => h) (Or.inl ⟨by rfl, ?_⟩) ?_ ?_
                       rotate_left
                       ·intro w'
                        go_simp
                        with_reducible rfl
                       rotate_left
                       ·simp only [Act.put, sI_, s0_, sS_, i64_w, i32_w]
                        rfl
                       refine pure_ (i := 36) (N := some 166) (v := ?_) (a' := ?_) #[y_, y_, y_, y_, y_, y_, y_, y_, y_, y_, y_, y_, y_, y_, y_, y_, y_, y_, y_, y_, y_, y_, y_, y_, y_, y_, y_, y_, y_, y_, y_, y_, n_, y_, y_, y_, y_, n_, n_, n_, n_] rfl rfl (any_of HT_.out (by kernel_rfl)) (fun _ _ _ h => h) (Or.inl ⟨by rfl, ?_⟩) ?_ ?_
                       rotate_left
                       ·intro w'
                        go_simp
                        with_reducible rfl
                       rotate_left
                       ·simp only [Act.put, sI_, s0_, sS_, i64_w, i32_w]
                        rfl
                       refine take_ (i := 32) (N := some 162) (v := ?_) (a' := ?_) #[y_, y_, y_, y_, y_, y_, y_, y_, y_, y_, y_, y_, y_, y_, y_, y_, y_, y_, y_, y_, y_, y_, y_, y_, y_, y_, y_, y_, y_, y_, y_, y_, y_, y_, y_, y_, y_, n_, n_, n_, n_] rfl rfl (take_ofW HT_.out HW_.out (by kernel_rfl)) (fun _ _ _ h => h) (Or.inl ⟨by rfl, ?_⟩) hHeld ?_ ?_
                       rotate_left
                       ·rintro w' ⟨s0, s1, s2, s3, s4, s5, s6, s7, s8, s9, s10, s11⟩
                        go_simp
                        with_reducible rfl
                       rotate_left
                       ·simp only [Act.put, sI_, s0_, sS_, i64_w, i32_w]
                        rfl
                       refine take_ (i := 37) (N := some 167) (v := ?_) (a' := ?_) #[y_, y_, y_, y_, y_, y_, y_, y_, y_, y_, y_, y_, y_, y_, y_, y_, y_, y_, y_, y_, y_, y_, y_, y_, y_, y_, y_, y_, y_, y_, y_, y_, y_, y_, y_, y_, y_, y_, n_, n_, n_] rfl rfl (take_ofW HT_.out HW_.out (by kernel_rfl)) (fun _ _ _ h => h) (Or.inl ⟨by rfl, ?_⟩) hHeld ?_ ?_
                       rotate_left
                       ·rintro w' ⟨s0, s1, s2, s3, s4, s5, s6, s7, s8, s9, s10, s11⟩
                        go_simp
                        with_reducible rfl
                       rotate_left
                       ·simp only [Act.put, sI_, s0_, sS_, i64_w, i32_w]
                        rfl
                       refine pure_ (i := 38) (N := some 168) (v := ?_) (a' := ?_) #[y_, y_, y_, y_, y_, y_, y_, y_, y_, y_, y_, y_, y_, y_, y_, y_, y_, y_, y_, y_, y_, y_, y_, y_, y_, y_, y_, y_, y_, y_, y_, y_, y_, y_, y_, y_, y_, y_, y_, n_, n_] rfl rfl (any_of HT_.out (by kernel_rfl)) (fun _ _ _ h => h) (Or.inl ⟨by rfl, ?_⟩) ?_ ?_
                       rotate_left
                       ·intro w'
                        go_simp
                        with_reducible rfl
                       rotate_left
                       ·simp only [Act.put, sI_, s0_, sS_, i64_w, i32_w]
                        rfl
                       refine pure_ (i := 39) (N := some 169) (v := ?_) (a' := ?_) #[y_, y_, y_, y_, y_, y_, y_, y_, y_, y_, y_, y_, y_, y_, y_, y_, y_, y_, y_, y_, y_, y_, y_, y_, y_, y_, y_, y_, y_, y_, y_, y_, y_, y_, y_, y_, y_, y_, y_, y_, n_] rfl rfl (any_of HT_.out (by kernel_rfl)) (fun _ _ _ h => h) (Or.inl ⟨by rfl, ?_⟩) ?_ ?_
                       rotate_left
                       ·intro w'
                        go_simp
                        with_reducible rfl
                       rotate_left
                       ·simp only [Act.put, sI_, s0_, sS_, i64_w, i32_w]
                        rfl
                       refine pure_ (i := 40) (N := some 7) (v := ?_) (a' := ?_) #[y_, y_, y_, y_, y_, y_, y_, y_, y_, y_, y_, y_, y_, y_, y_, y_, y_, y_, y_, y_, y_, y_, y_, y_, y_, y_, y_, y_, y_, y_, y_, y_, y_, y_, y_, y_, y_, y_, y_, y_, y_] rfl rfl (any_of HT_.out (by kernel_rfl)) (fun _ _ _ h => h) (Or.inl ⟨by rfl, ?_⟩) ?_ ?_
                       rotate_left
                       ·intro w'
                        go_simp
                        with_reducible rfl
                       rotate_left
                       ·simp only [Act.put, sI_, s0_, sS_, i64_w, i32_w]
                        rfl
                       refine done_ (done_of HT_.out (by kernel_rfl)) ?_
                       try go_wp2
                       go_roundg k4
                       case measure => have := HK1.out; have := HJ38.out; have := HJ48.out; have := HK4.out; omega
                       case rel => exact ⟨(decide (((rd_T39 t518 x127_4).f1) ≤ ((rd_T39 t514 x127_4).f1))), (wrap64 (x127_4 + 1)), (by first | rfl | (simp; done) | (simp [*]; done)), (by first | rfl | (simp; done) | (simp [*]; done)), H', ⟨by have := HK1.out; have := HJ38.out; have := HJ48.out; have := HK4.out; omega⟩, ⟨by (try simp only [hl8_1]); (with_reducible repeat (first | apply Kd.R_alloc | apply Kd.R_drewN | apply Kd.R_drew)); exact HO_11.out⟩, ⟨by (try simp only [hl8_1]); (with_reducible repeat (first | apply Kd.R_alloc | apply Kd.R_drewN | apply Kd.R_drew)); exact HO_13.out⟩, ⟨by repeat (first | (with_reducible first | exact HB.out | apply below_alloc | apply pw_below_drewN | apply below_drew1) | exact HB.out)⟩⟩
                      ·rw [if_neg c59] at H
                       have c59b0 : decide (((rd_T39 t518 x127_4).f0) ≤ ((rd_T39 t518 x127_4).f1)) = false := decide_eq_false c59
                       clear c59
                       have H' := Aside0.mk H
                       clear H
                       try go_wp2
                       have n0_ := Aside0.mk (Kd.R_drew HO_11.out)
                       have n1_ := Aside0.mk (Kd.R_drew HO_13.out)
                       have n2_ := Aside0.mk (below_drew1 HB.out)
                       clear HO_11
                       clear HO_13
                       clear HB
                       have HO_11 := n0_
                       have HO_13 := n1_
                       have HB := n2_
                       clear n0_ n1_ n2_
                       have p527 : 0 ≤ (x127_4 : Int) := of_decide_eq_true (by first | (with_reducible assumption) | assumption)
                       have q527 : x127_4 < (t514.length : Int) := of_decide_eq_true (by first | (with_reducible assumption) | assumption)
                       obtain ⟨ad527, e527, hx527_0, hx527_1⟩ := at_T39 (Kd.R_reads' HO_11.out).2.2 x127_4 p527 q527
                       cases e527
                       replace p527 := eq_true p527
                       replace q527 := eq_true q527
                       obtain ⟨Ao63, co63, eo63⟩ := Kd.R_slice HO_13.out
                       (first | subst eo63 | (injection eo63 with f1_ f2_ f3_; have f4_ := f1_.symm; have f5_ := f3_.symm; clear f1_ f2_ f3_; subst f4_; subst f5_))
                       have p528 : 0 ≤ (x127_4 : Int) := of_decide_eq_true (by first | (with_reducible assumption) | assumption)
                       have q528 : x127_4 < (t518.length : Int) := of_decide_eq_true (by first | (with_reducible assumption) | assumption)
                       obtain ⟨ad528, e528, hx528_0, hx528_1⟩ := at_T39 (Kd.R_reads' HO_13.out).2.2 x127_4 p528 q528
                       cases e528
                       replace p528 := eq_true p528
                       replace q528 := eq_true q528
                       have p529 : 0 ≤ (x127_4 : Int) := of_decide_eq_true (by first | (with_reducible assumption) | assumption)
                       have q529 : x127_4 < (t518.length : Int) := of_decide_eq_true (by first | (with_reducible assumption) | assumption)
                       obtain ⟨ad529, e529, hx529_0, hx529_1⟩ := at_T39 (Kd.R_reads' HO_13.out).2.2 x127_4 p529 q529
                       obtain rfl : ad528 = ad529 := (by injection e529)
                       replace p529 := eq_true p529
                       replace q529 := eq_true q529
                       have p530 : 0 ≤ (x127_4 : Int) := of_decide_eq_true (by first | (with_reducible assumption) | assumption)
                       have q530 : x127_4 < (t518.length : Int) := of_decide_eq_true (by first | (with_reducible assumption) | assumption)
                       obtain ⟨ad530, e530, hx530_0, hx530_1⟩ := at_T39 (Kd.R_reads' HO_13.out).2.2 x127_4 p530 q530
                       obtain rfl : ad528 = ad530 := (by injection e530)
                       replace p530 := eq_true p530
                       replace q530 := eq_true q530
                       refine start_ (n := 41) (S := fun w' => w'.cell? (ad527.add ((x127_4).toNat * 2)) = some (.int .i64 ((rd_T39 t514 x127_4).f0)) ∧ w'.cell? ⟨(ad527.add ((x127_4).toNat * 2)).block, (ad527.add ((x127_4).toNat * 2)).off + 1, none⟩ = some (.int .i64 ((rd_T39 t514 x127_4).f1)) ∧ w'.cell? (ad528.add ((x127_4).toNat * 2)) = some (.int .i64 ((rd_T39 t518 x127_4).f0)) ∧ w'.cell? ⟨(ad528.add ((x127_4).toNat * 2)).block, (ad528.add ((x127_4).toNat * 2)).off + 1, none⟩ = some (.int .i64 ((rd_T39 t518 x127_4).f1)) ∧ w'.cell? (ad528.add ((x127_4).toNat * 2)) = some (.int .i64 ((rd_T39 t518 x127_4).f0)) ∧ w'.cell? ⟨(ad528.add ((x127_4).toNat * 2)).block, (ad528.add ((x127_4).toNat * 2)).off + 1, none⟩ = some (.int .i64 ((rd_T39 t518 x127_4).f1)) ∧ w'.cell? (ad528.add ((x127_4).toNat * 2)) = some (.int .i64 ((rd_T39 t518 x127_4).f0)) ∧ w'.cell? ⟨(ad528.add ((x127_4).toNat * 2)).block, (ad528.add ((x127_4).toNat * 2)).off + 1, none⟩ = some (.int .i64 ((rd_T39 t518 x127_4).f1))) (ds := []) #[n_, n_, n_, n_, n_, n_, n_, n_, n_, n_, n_, n_, n_, n_, n_, n_, n_, n_, n_, n_, n_, n_, n_, n_, n_, n_, n_, n_, n_, n_, n_, n_, n_, n_, n_, n_, n_, n_, n_, n_, n_] (by kernel_rfl) rfl rfl ⟨hx527_0, hx527_1, hx528_0, hx528_1, hx529_0, hx529_1, hx530_0, hx530_1⟩ (fun hHeld => ?_); refine with_tabW cohousinglaw28_FlowKnowledge.tab27 cohousinglaw28_FlowKnowledge.bits27 (fun HT_ HW_ => ?_)
                       generalize wr.drew = w62 at HO_11 HO_13 HB hx527_0 hx527_1 hx528_0 hx528_1 hx529_0 hx529_1 hx530_0 hx530_1 hHeld ⊢
                       refine pure_ (i := 0) (N := some 130) (v := ?_) (a' := ?_) #[y_, n_, n_, n_, n_, n_, n_, n_, n_, n_, n_, n_, n_, n_, n_, n_, n_, n_, n_, n_, n_, n_, n_, n_, n_, n_, n_, n_, n_, n_, n_, n_, n_, n_, n_, n_, n_, n_, n_, n_, n_] rfl rfl (any_of HT_.out (by kernel_rfl)) (fun _ _ _ h => h) (Or.inl ⟨by rfl, ?_⟩) ?_ ?_
                       rotate_left
                       ·intro w'
                        go_simp
                        with_reducible rfl
                       rotate_left
                       ·simp only [Act.put, sI_, s0_, sS_, i64_w, i32_w]
                        rfl
                       refine pure_ (i := 1) (N := some 131) (v := ?_) (a' := ?_) #[y_, y_, n_, n_, n_, n_, n_, n_, n_, n_, n_, n_, n_, n_, n_, n_, n_, n_, n_, n_, n_, n_, n_, n_, n_, n_, n_, n_, n_, n_, n_, n_, n_, n_, n_, n_, n_, n_, n_, n_, n_] rfl rfl (any_of HT_.out (by kernel_rfl)) (fun _ _ _ h => h) (Or.inl ⟨by rfl, ?_⟩) ?_ ?_
                       rotate_left
                       ·intro w'
                        go_simp
                        with_reducible rfl
                       rotate_left
                       ·simp only [Act.put, sI_, s0_, sS_, i64_w, i32_w]
                        rfl
                       refine pure_ (i := 2) (N := some 132) (v := ?_) (a' := ?_) #[y_, y_, y_, n_, n_, n_, n_, n_, n_, n_, n_, n_, n_, n_, n_, n_, n_, n_, n_, n_, n_, n_, n_, n_, n_, n_, n_, n_, n_, n_, n_, n_, n_, n_, n_, n_, n_, n_, n_, n_, n_] rfl rfl (any_of HT_.out (by kernel_rfl)) (fun _ _ _ h => h) (Or.inl ⟨by rfl, ?_⟩) ?_ ?_
                       rotate_left
                       ·intro w'
                        go_simp
                        with_reducible rfl
                       rotate_left
                       ·simp only [Act.put, sI_, s0_, sS_, i64_w, i32_w]
                        rfl
                       refine pure_ (i := 3) (N := some 133) (v := ?_) (a' := ?_) #[y_, y_, y_, y_, n_, n_, n_, n_, n_, n_, n_, n_, n_, n_, n_, n_, n_, n_, n_, n_, n_, n_, n_, n_, n_, n_, n_, n_, n_, n_, n_, n_, n_, n_, n_, n_, n_, n_, n_, n_, n_] rfl rfl (any_of HT_.out (by kernel_rfl)) (fun _ _ _ h => h) (Or.inl ⟨by rfl, ?_⟩) ?_ ?_
                       rotate_left
                       ·intro w'
                        go_simp
                        with_reducible rfl
                       rotate_left
                       ·simp only [Act.put, sI_, s0_, sS_, i64_w, i32_w]
                        rfl
                       refine pure_ (i := 4) (N := some 134) (v := ?_) (a' := ?_) #[y_, y_, y_, y_, y_, n_, n_, n_, n_, n_, n_, n_, n_, n_, n_, n_, n_, n_, n_, n_, n_, n_, n_, n_, n_, n_, n_, n_, n_, n_, n_, n_, n_, n_, n_, n_, n_, n_, n_, n_, n_] rfl rfl (any_of HT_.out (by kernel_rfl)) (fun _ _ _ h => h) (Or.inl ⟨by rfl, ?_⟩) ?_ ?_
                       rotate_left
                       ·intro w'
                        go_simp
                        with_reducible rfl
                       rotate_left
                       ·simp only [Act.put, sI_, s0_, sS_, i64_w, i32_w]
                        rfl
                       refine pure_ (i := 5) (N := some 135) (v := ?_) (a' := ?_) #[y_, y_, y_, y_, y_, y_, n_, n_, n_, n_, n_, n_, n_, n_, n_, n_, n_, n_, n_, n_, n_, n_, n_, n_, n_, n_, n_, n_, n_, n_, n_, n_, n_, n_, n_, n_, n_, n_, n_, n_, n_] rfl rfl (any_of HT_.out (by kernel_rfl)) (fun _ _ _ h => h) (Or.inl ⟨by rfl, ?_⟩) ?_ ?_
                       rotate_left
                       ·intro w'
                        go_simp
                        with_reducible rfl
                       rotate_left
                       ·simp only [Act.put, sI_, s0_, sS_, i64_w, i32_w]
                        rfl
                       refine pure_ (i := 7) (N := some 137) (v := ?_) (a' := ?_) #[y_, y_, y_, y_, y_, y_, n_, y_, n_, n_, n_, n_, n_, n_, n_, n_, n_, n_, n_, n_, n_, n_, n_, n_, n_, n_, n_, n_, n_, n_, n_, n_, n_, n_, n_, n_, n_, n_, n_, n_, n_] rfl rfl (any_of HT_.out (by kernel_rfl)) (fun _ _ _ h => h) (Or.inl ⟨by rfl, ?_⟩) ?_ ?_
                       rotate_left
                       ·intro w'
                        go_simp
                        with_reducible rfl
                       rotate_left
                       ·simp only [Act.put, sI_, s0_, sS_, i64_w, i32_w]
                        rfl
                       refine pure_ (i := 8) (N := some 138) (v := ?_) (a' := ?_) #[y_, y_, y_, y_, y_, y_, n_, y_, y_, n_, n_, n_, n_, n_, n_, n_, n_, n_, n_, n_, n_, n_, n_, n_, n_, n_, n_, n_, n_, n_, n_, n_, n_, n_, n_, n_, n_, n_, n_, n_, n_] rfl rfl (any_of HT_.out (by kernel_rfl)) (fun _ _ _ h => h) (Or.inl ⟨by rfl, ?_⟩) ?_ ?_
                       rotate_left
                       ·intro w'
                        go_simp
                        with_reducible rfl
                       rotate_left
                       ·simp only [Act.put, sI_, s0_, sS_, i64_w, i32_w]
                        rfl
                       refine pure_ (i := 9) (N := some 139) (v := ?_) (a' := ?_) #[y_, y_, y_, y_, y_, y_, n_, y_, y_, y_, n_, n_, n_, n_, n_, n_, n_, n_, n_, n_, n_, n_, n_, n_, n_, n_, n_, n_, n_, n_, n_, n_, n_, n_, n_, n_, n_, n_, n_, n_, n_] rfl rfl (any_of HT_.out (by kernel_rfl)) (fun _ _ _ h => h) (Or.inl ⟨by rfl, ?_⟩) ?_ ?_
                       rotate_left
                       ·intro w'
                        go_simp
                        with_reducible rfl
                       rotate_left
                       ·simp only [Act.put, sI_, s0_, sS_, i64_w, i32_w]
                        rfl
                       refine pure_ (i := 10) (N := some 140) (v := ?_) (a' := ?_) #[y_, y_, y_, y_, y_, y_, n_, y_, y_, y_, y_, n_, n_, n_, n_, n_, n_, n_, n_, n_, n_, n_, n_, n_, n_, n_, n_, n_, n_, n_, n_, n_, n_, n_, n_, n_, n_, n_, n_, n_, n_] rfl rfl (any_of HT_.out (by kernel_rfl)) (fun _ _ _ h => h) (Or.inl ⟨by rfl, ?_⟩) ?_ ?_
                       rotate_left
                       ·intro w'
                        go_simp
                        with_reducible rfl
                       rotate_left
                       ·simp only [Act.put, sI_, s0_, sS_, i64_w, i32_w]
                        rfl
                       refine take_ (i := 6) (N := some 136) (v := ?_) (a' := ?_) #[y_, y_, y_, y_, y_, y_, y_, y_, y_, y_, y_, n_, n_, n_, n_, n_, n_, n_, n_, n_, n_, n_, n_, n_, n_, n_, n_, n_, n_, n_, n_, n_, n_, n_, n_, n_, n_, n_, n_, n_, n_] rfl rfl (take_ofW HT_.out HW_.out (by kernel_rfl)) (fun _ _ _ h => h) (Or.inl ⟨by rfl, ?_⟩) hHeld ?_ ?_
                       rotate_left
                       ·rintro w' ⟨s0, s1, s2, s3, s4, s5, s6, s7⟩
                        go_simp
                        with_reducible rfl
                       rotate_left
                       ·simp only [Act.put, sI_, s0_, sS_, i64_w, i32_w]
                        rfl
                       refine take_ (i := 11) (N := some 141) (v := ?_) (a' := ?_) #[y_, y_, y_, y_, y_, y_, y_, y_, y_, y_, y_, y_, n_, n_, n_, n_, n_, n_, n_, n_, n_, n_, n_, n_, n_, n_, n_, n_, n_, n_, n_, n_, n_, n_, n_, n_, n_, n_, n_, n_, n_] rfl rfl (take_ofW HT_.out HW_.out (by kernel_rfl)) (fun _ _ _ h => h) (Or.inl ⟨by rfl, ?_⟩) hHeld ?_ ?_
                       rotate_left
                       ·rintro w' ⟨s0, s1, s2, s3, s4, s5, s6, s7⟩
                        go_simp
                        with_reducible rfl
                       rotate_left
                       ·simp only [Act.put, sI_, s0_, sS_, i64_w, i32_w]
                        rfl
                       refine pure_ (i := 12) (N := some 142) (v := ?_) (a' := ?_) #[y_, y_, y_, y_, y_, y_, y_, y_, y_, y_, y_, y_, y_, n_, n_, n_, n_, n_, n_, n_, n_, n_, n_, n_, n_, n_, n_, n_, n_, n_, n_, n_, n_, n_, n_, n_, n_, n_, n_, n_, n_] rfl rfl (any_of HT_.out (by kernel_rfl)) (fun _ _ _ h => h) (Or.inl ⟨by rfl, ?_⟩) ?_ ?_
                       rotate_left
                       ·intro w'
                        go_simp
                        with_reducible rfl
                       rotate_left
                       ·simp only [Act.put, sI_, s0_, sS_, i64_w, i32_w]
                        rfl
                       refine pure_ (i := 13) (N := some 143) (v := ?_) (a' := ?_) #[y_, y_, y_, y_, y_, y_, y_, y_, y_, y_, y_, y_, y_, y_, n_, n_, n_, n_, n_, n_, n_, n_, n_, n_, n_, n_, n_, n_, n_, n_, n_, n_, n_, n_, n_, n_, n_, n_, n_, n_, n_] rfl rfl (any_of HT_.out (by kernel_rfl)) (fun _ _ _ h => h) (Or.inl ⟨by rfl, ?_⟩) ?_ ?_
                       rotate_left
                       ·intro w'
                        go_simp
                        with_reducible rfl
                       rotate_left
                       ·simp only [Act.put, sI_, s0_, sS_, i64_w, i32_w]
                        rfl
                       refine pure_ (i := 14) (N := some 144) (v := ?_) (a' := ?_) #[y_, y_, y_, y_, y_, y_, y_, y_, y_, y_, y_, y_, y_, y_, y_, n_, n_, n_, n_, n_, n_, n_, n_, n_, n_, n_, n_, n_, n_, n_, n_, n_, n_, n_, n_, n_, n_, n_, n_, n_, n_] rfl rfl (any_of HT_.out (by kernel_rfl)) (fun _ _ _ h => h) (Or.inl ⟨by rfl, ?_⟩) ?_ ?_
                       rotate_left
                       ·intro w'
                        go_simp
                        with_reducible rfl
                       rotate_left
                       ·simp only [Act.put, sI_, s0_, sS_, i64_w, i32_w]
                        rfl
                       refine pure_ (i := 15) (N := some 145) (v := ?_) (a' := ?_) #[y_, y_, y_, y_, y_, y_, y_, y_, y_, y_, y_, y_, y_, y_, y_, y_, n_, n_, n_, n_, n_, n_, n_, n_, n_, n_, n_, n_, n_, n_, n_, n_, n_, n_, n_, n_, n_, n_, n_, n_, n_] rfl rfl (any_of HT_.out (by kernel_rfl)) (fun _ _ _ h => h) (Or.inl ⟨by rfl, ?_⟩) ?_ ?_
                       rotate_left
                       ·intro w'
                        go_simp
                        with_reducible rfl
                       rotate_left
                       ·simp only [Act.put, sI_, s0_, sS_, i64_w, i32_w]
                        rfl
                       refine pure_ (i := 16) (N := some 146) (v := ?_) (a' := ?_) #[y_, y_, y_, y_, y_, y_, y_, y_, y_, y_, y_, y_, y_, y_, y_, y_, y_, n_, n_, n_, n_, n_, n_, n_, n_, n_, n_, n_, n_, n_, n_, n_, n_, n_, n_, n_, n_, n_, n_, n_, n_] rfl rfl (any_of HT_.out (by kernel_rfl)) (fun _ _ _ h => h) (Or.inl ⟨by rfl, ?_⟩) ?_ ?_
                       rotate_left
                       ·intro w'
                        go_simp
                        with_reducible rfl
                       rotate_left
                       ·simp only [Act.put, sI_, s0_, sS_, i64_w, i32_w]
                        rfl
                       refine pure_ (i := 17) (N := some 147) (v := ?_) (a' := ?_) #[y_, y_, y_, y_, y_, y_, y_, y_, y_, y_, y_, y_, y_, y_, y_, y_, y_, y_, n_, n_, n_, n_, n_, n_, n_, n_, n_, n_, n_, n_, n_, n_, n_, n_, n_, n_, n_, n_, n_, n_, n_] rfl rfl (any_of HT_.out (by kernel_rfl)) (fun _ _ _ h => h) (Or.inl ⟨by rfl, ?_⟩) ?_ ?_
                       rotate_left
                       ·intro w'
                        go_simp
                        with_reducible rfl
                       rotate_left
                       ·simp only [Act.put, sI_, s0_, sS_, i64_w, i32_w]
                        rfl
                       refine pure_ (i := 18) (N := some 148) (v := ?_) (a' := ?_) #[y_, y_, y_, y_, y_, y_, y_, y_, y_, y_, y_, y_, y_, y_, y_, y_, y_, y_, y_, n_, n_, n_, n_, n_, n_, n_, n_, n_, n_, n_, n_, n_, n_, n_, n_, n_, n_, n_, n_, n_, n_] rfl rfl (any_of HT_.out (by kernel_rfl)) (fun _ _ _ h => h) (Or.inl ⟨by rfl, ?_⟩) ?_ ?_
                       rotate_left
                       ·intro w'
                        go_simp
                        with_reducible rfl
                       rotate_left
                       ·simp only [Act.put, sI_, s0_, sS_, i64_w, i32_w]
                        rfl
                       refine pure_ (i := 20) (N := some 150) (v := ?_) (a' := ?_) #[y_, y_, y_, y_, y_, y_, y_, y_, y_, y_, y_, y_, y_, y_, y_, y_, y_, y_, y_, n_, y_, n_, n_, n_, n_, n_, n_, n_, n_, n_, n_, n_, n_, n_, n_, n_, n_, n_, n_, n_, n_] rfl rfl (any_of HT_.out (by kernel_rfl)) (fun _ _ _ h => h) (Or.inl ⟨by rfl, ?_⟩) ?_ ?_
                       rotate_left
                       ·intro w'
                        go_simp
                        with_reducible rfl
                       rotate_left
                       ·simp only [Act.put, sI_, s0_, sS_, i64_w, i32_w]
                        rfl
                       refine pure_ (i := 21) (N := some 151) (v := ?_) (a' := ?_) #[y_, y_, y_, y_, y_, y_, y_, y_, y_, y_, y_, y_, y_, y_, y_, y_, y_, y_, y_, n_, y_, y_, n_, n_, n_, n_, n_, n_, n_, n_, n_, n_, n_, n_, n_, n_, n_, n_, n_, n_, n_] rfl rfl (any_of HT_.out (by kernel_rfl)) (fun _ _ _ h => h) (Or.inl ⟨by rfl, ?_⟩) ?_ ?_
                       rotate_left
                       ·intro w'
                        go_simp
                        with_reducible rfl
                       rotate_left
                       ·simp only [Act.put, sI_, s0_, sS_, i64_w, i32_w]
                        rfl
                       refine pure_ (i := 22) (N := some 152) (v := ?_) (a' := ?_) #[y_, y_, y_, y_, y_, y_, y_, y_, y_, y_, y_, y_, y_, y_, y_, y_, y_, y_, y_, n_, y_, y_, y_, n_, n_, n_, n_, n_, n_, n_, n_, n_, n_, n_, n_, n_, n_, n_, n_, n_, n_] rfl rfl (any_of HT_.out (by kernel_rfl)) (fun _ _ _ h => h) (Or.inl ⟨by rfl, ?_⟩) ?_ ?_
                       rotate_left
                       ·intro w'
                        go_simp
                        with_reducible rfl
                       rotate_left
                       ·simp only [Act.put, sI_, s0_, sS_, i64_w, i32_w]
                        rfl
                       refine pure_ (i := 23) (N := some 153) (v := ?_) (a' := ?_) #[y_, y_, y_, y_, y_, y_, y_, y_, y_, y_, y_, y_, y_, y_, y_, y_, y_, y_, y_, n_, y_, y_, y_, y_, n_, n_, n_, n_, n_, n_, n_, n_, n_, n_, n_, n_, n_, n_, n_, n_, n_] rfl rfl (any_of HT_.out (by kernel_rfl)) (fun _ _ _ h => h) (Or.inl ⟨by rfl, ?_⟩) ?_ ?_
                       rotate_left
                       ·intro w'
                        go_simp
                        with_reducible rfl
                       rotate_left
                       ·simp only [Act.put, sI_, s0_, sS_, i64_w, i32_w]
                        rfl
                       refine take_ (i := 19) (N := some 149) (v := ?_) (a' := ?_) #[y_, y_, y_, y_, y_, y_, y_, y_, y_, y_, y_, y_, y_, y_, y_, y_, y_, y_, y_, y_, y_, y_, y_, y_, n_, n_, n_, n_, n_, n_, n_, n_, n_, n_, n_, n_, n_, n_, n_, n_, n_] rfl rfl (take_ofW HT_.out HW_.out (by kernel_rfl)) (fun _ _ _ h => h) (Or.inl ⟨by rfl, ?_⟩) hHeld ?_ ?_
                       rotate_left
                       ·rintro w' ⟨s0, s1, s2, s3, s4, s5, s6, s7⟩
                        go_simp
                        with_reducible rfl
                       rotate_left
                       ·simp only [Act.put, sI_, s0_, sS_, i64_w, i32_w]
                        rfl
                       refine take_ (i := 24) (N := some 154) (v := ?_) (a' := ?_) #[y_, y_, y_, y_, y_, y_, y_, y_, y_, y_, y_, y_, y_, y_, y_, y_, y_, y_, y_, y_, y_, y_, y_, y_, y_, n_, n_, n_, n_, n_, n_, n_, n_, n_, n_, n_, n_, n_, n_, n_, n_] rfl rfl (take_ofW HT_.out HW_.out (by kernel_rfl)) (fun _ _ _ h => h) (Or.inl ⟨by rfl, ?_⟩) hHeld ?_ ?_
                       rotate_left
                       ·rintro w' ⟨s0, s1, s2, s3, s4, s5, s6, s7⟩
                        go_simp
                        with_reducible rfl
                       rotate_left
                       ·simp only [Act.put, sI_, s0_, sS_, i64_w, i32_w]
                        rfl
                       refine pure_ (i := 25) (N := some 155) (v := ?_) (a' := ?_) #[y_, y_, y_, y_, y_, y_, y_, y_, y_, y_, y_, y_, y_, y_, y_, y_, y_, y_, y_, y_, y_, y_, y_, y_, y_, y_, n_, n_, n_, n_, n_, n_, n_, n_, n_, n_, n_, n_, n_, n_, n_] rfl rfl (any_of HT_.out (by kernel_rfl)) (fun _ _ _ h => h) (Or.inl ⟨by rfl, ?_⟩) ?_ ?_
                       rotate_left
                       ·intro w'
                        go_simp
                        with_reducible rfl
                       rotate_left
                       ·simp only [Act.put, sI_, s0_, sS_, i64_w, i32_w]
                        rfl
                       refine pure_ (i := 26) (N := some 156) (v := ?_) (a' := ?_) #[y_, y_, y_, y_, y_, y_, y_, y_, y_, y_, y_, y_, y_, y_, y_, y_, y_, y_, y_, y_, y_, y_, y_, y_, y_, y_, y_, n_, n_, n_, n_, n_, n_, n_, n_, n_, n_, n_, n_, n_, n_] rfl rfl (any_of HT_.out (by kernel_rfl)) (fun _ _ _ h => h) (Or.inl ⟨by rfl, ?_⟩) ?_ ?_
                       rotate_left
                       ·intro w'
                        go_simp
                        with_reducible rfl
                       rotate_left
                       ·simp only [Act.put, sI_, s0_, sS_, i64_w, i32_w]
                        rfl
                       refine pure_ (i := 27) (N := some 157) (v := ?_) (a' := ?_) #[y_, y_, y_, y_, y_, y_, y_, y_, y_, y_, y_, y_, y_, y_, y_, y_, y_, y_, y_, y_, y_, y_, y_, y_, y_, y_, y_, y_, n_, n_, n_, n_, n_, n_, n_, n_, n_, n_, n_, n_, n_] rfl rfl (any_of HT_.out (by kernel_rfl)) (fun _ _ _ h => h) (Or.inl ⟨by rfl, ?_⟩) ?_ ?_
                       rotate_left
                       ·intro w'
                        go_simp
                        with_reducible rfl
                       rotate_left
                       ·simp only [Act.put, sI_, s0_, sS_, i64_w, i32_w]
                        rfl
                       refine pure_ (i := 28) (N := some 158) (v := undef) (a' := ?_) #[y_, y_, y_, y_, y_, y_, y_, y_, y_, y_, y_, y_, y_, y_, y_, y_, y_, y_, y_, y_, y_, y_, y_, y_, y_, y_, y_, y_, y_, n_, n_, n_, n_, n_, n_, n_, n_, n_, n_, n_, n_] rfl rfl (any_of HT_.out (by kernel_rfl)) (fun _ _ _ h => h) (Or.inr ⟨by rfl, rfl⟩) ?_ ?_
                       rotate_left
                       ·simp only [Act.put, sI_, s0_, sS_, i64_w, i32_w]
                        rfl
                       refine pure_ (i := 29) (N := some 159) (v := undef) (a' := ?_) #[y_, y_, y_, y_, y_, y_, y_, y_, y_, y_, y_, y_, y_, y_, y_, y_, y_, y_, y_, y_, y_, y_, y_, y_, y_, y_, y_, y_, y_, y_, n_, n_, n_, n_, n_, n_, n_, n_, n_, n_, n_] rfl rfl (any_of HT_.out (by kernel_rfl)) (fun _ _ _ h => h) (Or.inr ⟨by rfl, rfl⟩) ?_ ?_
                       rotate_left
                       ·simp only [Act.put, sI_, s0_, sS_, i64_w, i32_w]
                        rfl
                       refine pure_ (i := 30) (N := some 160) (v := undef) (a' := ?_) #[y_, y_, y_, y_, y_, y_, y_, y_, y_, y_, y_, y_, y_, y_, y_, y_, y_, y_, y_, y_, y_, y_, y_, y_, y_, y_, y_, y_, y_, y_, y_, n_, n_, n_, n_, n_, n_, n_, n_, n_, n_] rfl rfl (any_of HT_.out (by kernel_rfl)) (fun _ _ _ h => h) (Or.inr ⟨by rfl, rfl⟩) ?_ ?_
                       rotate_left
                       ·simp only [Act.put, sI_, s0_, sS_, i64_w, i32_w]
                        rfl
                       refine pure_ (i := 31) (N := some 161) (v := undef) (a' := ?_) #[y_, y_, y_, y_, y_, y_, y_, y_, y_, y_, y_, y_, y_, y_, y_, y_, y_, y_, y_, y_, y_, y_, y_, y_, y_, y_, y_, y_, y_, y_, y_, y_, n_, n_, n_, n_, n_, n_, n_, n_, n_] rfl rfl (any_of HT_.out (by kernel_rfl)) (fun _ _ _ h => h) (Or.inr ⟨by rfl, rfl⟩) ?_ ?_
                       rotate_left
                       ·simp only [Act.put, sI_, s0_, sS_, i64_w, i32_w]
                        rfl
                       refine pure_ (i := 32) (N := some 162) (v := undef) (a' := ?_) #[y_, y_, y_, y_, y_, y_, y_, y_, y_, y_, y_, y_, y_, y_, y_, y_, y_, y_, y_, y_, y_, y_, y_, y_, y_, y_, y_, y_, y_, y_, y_, y_, y_, n_, n_, n_, n_, n_, n_, n_, n_] rfl rfl (any_of HT_.out (by kernel_rfl)) (fun _ _ _ h => h) (Or.inr ⟨by rfl, rfl⟩) ?_ ?_
                       rotate_left
                       ·simp only [Act.put, sI_, s0_, sS_, i64_w, i32_w]
                        rfl
                       refine pure_ (i := 33) (N := some 163) (v := undef) (a' := ?_) #[y_, y_, y_, y_, y_, y_, y_, y_, y_, y_, y_, y_, y_, y_, y_, y_, y_, y_, y_, y_, y_, y_, y_, y_, y_, y_, y_, y_, y_, y_, y_, y_, y_, y_, n_, n_, n_, n_, n_, n_, n_] rfl rfl (any_of HT_.out (by kernel_rfl)) (fun _ _ _ h => h) (Or.inr ⟨by rfl, rfl⟩) ?_ ?_
                       rotate_left
                       ·simp only [Act.put, sI_, s0_, sS_, i64_w, i32_w]
                        rfl
                       refine pure_ (i := 34) (N := some 164) (v := undef) (a' := ?_) #[y_, y_, y_, y_, y_, y_, y_, y_, y_, y_, y_, y_, y_, y_, y_, y_, y_, y_, y_, y_, y_, y_, y_, y_, y_, y_, y_, y_, y_, y_, y_, y_, y_, y_, y_, n_, n_, n_, n_, n_, n_] rfl rfl (any_of HT_.out (by kernel_rfl)) (fun _ _ _ h => h) (Or.inr ⟨by rfl, rfl⟩) ?_ ?_
                       rotate_left
                       ·simp only [Act.put, sI_, s0_, sS_, i64_w, i32_w]
                        rfl
                       refine pure_ (i := 35) (N := some 165) (v := undef) (a' := ?_) #[y_, y_, y_, y_, y_, y_, y_, y_, y_, y_, y_, y_, y_, y_, y_, y_, y_, y_, y_, y_, y_, y_, y_, y_, y_, y_, y_, y_, y_, y_, y_, y_, y_, y_, y_, y_, n_, n_, n_, n_, n_] rfl rfl (any_of HT_.out (by kernel_rfl)) (fun _ _ _ h => h) (Or.inr ⟨by rfl, rfl⟩) ?_ ?_
                       rotate_left
                       ·simp only [Act.put, sI_, s0_, sS_, i64_w, i32_w]
                        rfl
                       refine pure_ (i := 36) (N := some 166) (v := undef) (a' := ?_) #[y_, y_, y_, y_, y_, y_, y_, y_, y_, y_, y_, y_, y_, y_, y_, y_, y_, y_, y_, y_, y_, y_, y_, y_, y_, y_, y_, y_, y_, y_, y_, y_, y_, y_, y_, y_, y_, n_, n_, n_, n_] rfl rfl (any_of HT_.out (by kernel_rfl)) (fun _ _ _ h => h) (Or.inr ⟨by rfl, rfl⟩) ?_ ?_
                       rotate_left
                       ·simp only [Act.put, sI_, s0_, sS_, i64_w, i32_w]
                        rfl
                       refine pure_ (i := 37) (N := some 167) (v := undef) (a' := ?_) #[y_, y_, y_, y_, y_, y_, y_, y_, y_, y_, y_, y_, y_, y_, y_, y_, y_, y_, y_, y_, y_, y_, y_, y_, y_, y_, y_, y_, y_, y_, y_, y_, y_, y_, y_, y_, y_, y_, n_, n_, n_] rfl rfl (any_of HT_.out (by kernel_rfl)) (fun _ _ _ h => h) (Or.inr ⟨by rfl, rfl⟩) ?_ ?_
                       rotate_left
                       ·simp only [Act.put, sI_, s0_, sS_, i64_w, i32_w]
                        rfl
                       refine pure_ (i := 38) (N := some 168) (v := undef) (a' := ?_) #[y_, y_, y_, y_, y_, y_, y_, y_, y_, y_, y_, y_, y_, y_, y_, y_, y_, y_, y_, y_, y_, y_, y_, y_, y_, y_, y_, y_, y_, y_, y_, y_, y_, y_, y_, y_, y_, y_, y_, n_, n_] rfl rfl (any_of HT_.out (by kernel_rfl)) (fun _ _ _ h => h) (Or.inr ⟨by rfl, rfl⟩) ?_ ?_
                       rotate_left
                       ·simp only [Act.put, sI_, s0_, sS_, i64_w, i32_w]
                        rfl
                       refine pure_ (i := 39) (N := some 169) (v := ?_) (a' := ?_) #[y_, y_, y_, y_, y_, y_, y_, y_, y_, y_, y_, y_, y_, y_, y_, y_, y_, y_, y_, y_, y_, y_, y_, y_, y_, y_, y_, y_, y_, y_, y_, y_, y_, y_, y_, y_, y_, y_, y_, y_, n_] rfl rfl (any_of HT_.out (by kernel_rfl)) (fun _ _ _ h => h) (Or.inl ⟨by rfl, ?_⟩) ?_ ?_
                       rotate_left
                       ·intro w'
                        go_simp
                        with_reducible rfl
                       rotate_left
                       ·simp only [Act.put, sI_, s0_, sS_, i64_w, i32_w]
                        rfl
                       refine pure_ (i := 40) (N := some 7) (v := ?_) (a' := ?_) #[y_, y_, y_, y_, y_, y_, y_, y_, y_, y_, y_, y_, y_, y_, y_, y_, y_, y_, y_, y_, y_, y_, y_, y_, y_, y_, y_, y_, y_, y_, y_, y_, y_, y_, y_, y_, y_, y_, y_, y_, y_] rfl rfl (any_of HT_.out (by kernel_rfl)) (fun _ _ _ h => h) (Or.inl ⟨by rfl, ?_⟩) ?_ ?_
                       rotate_left
                       ·intro w'
                        go_simp
                        with_reducible rfl
                       rotate_left
                       ·simp only [Act.put, sI_, s0_, sS_, i64_w, i32_w]
                        rfl
                       refine done_ (done_of HT_.out (by kernel_rfl)) ?_
                       try go_wp2
                       go_roundg k4
                       case measure => have := HK1.out; have := HJ38.out; have := HJ48.out; have := HK4.out; omega
                       case rel => exact ⟨(false), (wrap64 (x127_4 + 1)), (by first | rfl | (simp; done) | (simp [*]; done)), (by first | rfl | (simp; done) | (simp [*]; done)), H', ⟨by have := HK1.out; have := HJ38.out; have := HJ48.out; have := HK4.out; omega⟩, ⟨by (try simp only [hl8_1]); (with_reducible repeat (first | apply Kd.R_alloc | apply Kd.R_drewN | apply Kd.R_drew)); exact HO_11.out⟩, ⟨by (try simp only [hl8_1]); (with_reducible repeat (first | apply Kd.R_alloc | apply Kd.R_drewN | apply Kd.R_drew)); exact HO_13.out⟩, ⟨by repeat (first | (with_reducible first | exact HB.out | apply below_alloc | apply pw_below_drewN | apply below_drew1) | exact HB.out)⟩⟩
                     ·rw [if_neg c58] at H
                      have c58b0 : decide (((rd_T39 t514 x127_4).f0) ≤ ((rd_T39 t518 x127_4).f0)) = false := decide_eq_false c58
                      clear c58
                      have H' := Aside0.mk H
                      clear H
                      try go_wp2
                      have n0_ := Aside0.mk (Kd.R_drew HO_11.out)
                      have n1_ := Aside0.mk (Kd.R_drew HO_13.out)
                      have n2_ := Aside0.mk (below_drew1 HB.out)
                      clear HO_11
                      clear HO_13
                      clear HB
                      have HO_11 := n0_
                      have HO_13 := n1_
                      have HB := n2_
                      clear n0_ n1_ n2_
                      have p527 : 0 ≤ (x127_4 : Int) := of_decide_eq_true (by first | (with_reducible assumption) | assumption)
                      have q527 : x127_4 < (t514.length : Int) := of_decide_eq_true (by first | (with_reducible assumption) | assumption)
                      obtain ⟨ad527, e527, hx527_0, hx527_1⟩ := at_T39 (Kd.R_reads' HO_11.out).2.2 x127_4 p527 q527
                      cases e527
                      replace p527 := eq_true p527
                      replace q527 := eq_true q527
                      obtain ⟨Ao65, co65, eo65⟩ := Kd.R_slice HO_13.out
                      (first | subst eo65 | (injection eo65 with f1_ f2_ f3_; have f4_ := f1_.symm; have f5_ := f3_.symm; clear f1_ f2_ f3_; subst f4_; subst f5_))
                      have p528 : 0 ≤ (x127_4 : Int) := of_decide_eq_true (by first | (with_reducible assumption) | assumption)
                      have q528 : x127_4 < (t518.length : Int) := of_decide_eq_true (by first | (with_reducible assumption) | assumption)
                      obtain ⟨ad528, e528, hx528_0, hx528_1⟩ := at_T39 (Kd.R_reads' HO_13.out).2.2 x127_4 p528 q528
                      cases e528
                      replace p528 := eq_true p528
                      replace q528 := eq_true q528
                      refine start_ (n := 41) (S := fun w' => w'.cell? (ad527.add ((x127_4).toNat * 2)) = some (.int .i64 ((rd_T39 t514 x127_4).f0)) ∧ w'.cell? ⟨(ad527.add ((x127_4).toNat * 2)).block, (ad527.add ((x127_4).toNat * 2)).off + 1, none⟩ = some (.int .i64 ((rd_T39 t514 x127_4).f1)) ∧ w'.cell? (ad528.add ((x127_4).toNat * 2)) = some (.int .i64 ((rd_T39 t518 x127_4).f0)) ∧ w'.cell? ⟨(ad528.add ((x127_4).toNat * 2)).block, (ad528.add ((x127_4).toNat * 2)).off + 1, none⟩ = some (.int .i64 ((rd_T39 t518 x127_4).f1))) (ds := []) #[n_, n_, n_, n_, n_, n_, n_, n_, n_, n_, n_, n_, n_, n_, n_, n_, n_, n_, n_, n_, n_, n_, n_, n_, n_, n_, n_, n_, n_, n_, n_, n_, n_, n_, n_, n_, n_, n_, n_, n_, n_] (by kernel_rfl) rfl rfl ⟨hx527_0, hx527_1, hx528_0, hx528_1⟩ (fun hHeld => ?_); refine with_tabW cohousinglaw28_FlowKnowledge.tab27 cohousinglaw28_FlowKnowledge.bits27 (fun HT_ HW_ => ?_)
                      generalize wr.drew = w64 at HO_11 HO_13 HB hx527_0 hx527_1 hx528_0 hx528_1 hHeld ⊢
                      refine pure_ (i := 0) (N := some 130) (v := ?_) (a' := ?_) #[y_, n_, n_, n_, n_, n_, n_, n_, n_, n_, n_, n_, n_, n_, n_, n_, n_, n_, n_, n_, n_, n_, n_, n_, n_, n_, n_, n_, n_, n_, n_, n_, n_, n_, n_, n_, n_, n_, n_, n_, n_] rfl rfl (any_of HT_.out (by kernel_rfl)) (fun _ _ _ h => h) (Or.inl ⟨by rfl, ?_⟩) ?_ ?_
                      rotate_left
                      ·intro w'
                       go_simp
                       with_reducible rfl
                      rotate_left
                      ·simp only [Act.put, sI_, s0_, sS_, i64_w, i32_w]
                       rfl
                      refine pure_ (i := 1) (N := some 131) (v := ?_) (a' := ?_) #[y_, y_, n_, n_, n_, n_, n_, n_, n_, n_, n_, n_, n_, n_, n_, n_, n_, n_, n_, n_, n_, n_, n_, n_, n_, n_, n_, n_, n_, n_, n_, n_, n_, n_, n_, n_, n_, n_, n_, n_, n_] rfl rfl (any_of HT_.out (by kernel_rfl)) (fun _ _ _ h => h) (Or.inl ⟨by rfl, ?_⟩) ?_ ?_
                      rotate_left
                      ·intro w'
                       go_simp
                       with_reducible rfl
                      rotate_left
                      ·simp only [Act.put, sI_, s0_, sS_, i64_w, i32_w]
                       rfl
                      refine pure_ (i := 2) (N := some 132) (v := ?_) (a' := ?_) #[y_, y_, y_, n_, n_, n_, n_, n_, n_, n_, n_, n_, n_, n_, n_, n_, n_, n_, n_, n_, n_, n_, n_, n_, n_, n_, n_, n_, n_, n_, n_, n_, n_, n_, n_, n_, n_, n_, n_, n_, n_] rfl rfl (any_of HT_.out (by kernel_rfl)) (fun _ _ _ h => h) (Or.inl ⟨by rfl, ?_⟩) ?_ ?_
                      rotate_left
                      ·intro w'
                       go_simp
                       with_reducible rfl
                      rotate_left
                      ·simp only [Act.put, sI_, s0_, sS_, i64_w, i32_w]
                       rfl
                      refine pure_ (i := 3) (N := some 133) (v := ?_) (a' := ?_) #[y_, y_, y_, y_, n_, n_, n_, n_, n_, n_, n_, n_, n_, n_, n_, n_, n_, n_, n_, n_, n_, n_, n_, n_, n_, n_, n_, n_, n_, n_, n_, n_, n_, n_, n_, n_, n_, n_, n_, n_, n_] rfl rfl (any_of HT_.out (by kernel_rfl)) (fun _ _ _ h => h) (Or.inl ⟨by rfl, ?_⟩) ?_ ?_
                      rotate_left
                      ·intro w'
                       go_simp
                       with_reducible rfl
                      rotate_left
                      ·simp only [Act.put, sI_, s0_, sS_, i64_w, i32_w]
                       rfl
                      refine pure_ (i := 4) (N := some 134) (v := ?_) (a' := ?_) #[y_, y_, y_, y_, y_, n_, n_, n_, n_, n_, n_, n_, n_, n_, n_, n_, n_, n_, n_, n_, n_, n_, n_, n_, n_, n_, n_, n_, n_, n_, n_, n_, n_, n_, n_, n_, n_, n_, n_, n_, n_] rfl rfl (any_of HT_.out (by kernel_rfl)) (fun _ _ _ h => h) (Or.inl ⟨by rfl, ?_⟩) ?_ ?_
                      rotate_left
                      ·intro w'
                       go_simp
                       with_reducible rfl
                      rotate_left
                      ·simp only [Act.put, sI_, s0_, sS_, i64_w, i32_w]
                       rfl
                      refine pure_ (i := 5) (N := some 135) (v := ?_) (a' := ?_) #[y_, y_, y_, y_, y_, y_, n_, n_, n_, n_, n_, n_, n_, n_, n_, n_, n_, n_, n_, n_, n_, n_, n_, n_, n_, n_, n_, n_, n_, n_, n_, n_, n_, n_, n_, n_, n_, n_, n_, n_, n_] rfl rfl (any_of HT_.out (by kernel_rfl)) (fun _ _ _ h => h) (Or.inl ⟨by rfl, ?_⟩) ?_ ?_
                      rotate_left
                      ·intro w'
                       go_simp
                       with_reducible rfl
                      rotate_left
                      ·simp only [Act.put, sI_, s0_, sS_, i64_w, i32_w]
                       rfl
                      refine pure_ (i := 7) (N := some 137) (v := ?_) (a' := ?_) #[y_, y_, y_, y_, y_, y_, n_, y_, n_, n_, n_, n_, n_, n_, n_, n_, n_, n_, n_, n_, n_, n_, n_, n_, n_, n_, n_, n_, n_, n_, n_, n_, n_, n_, n_, n_, n_, n_, n_, n_, n_] rfl rfl (any_of HT_.out (by kernel_rfl)) (fun _ _ _ h => h) (Or.inl ⟨by rfl, ?_⟩) ?_ ?_
                      rotate_left
                      ·intro w'
                       go_simp
                       with_reducible rfl
                      rotate_left
                      ·simp only [Act.put, sI_, s0_, sS_, i64_w, i32_w]
                       rfl
                      refine pure_ (i := 8) (N := some 138) (v := ?_) (a' := ?_) #[y_, y_, y_, y_, y_, y_, n_, y_, y_, n_, n_, n_, n_, n_, n_, n_, n_, n_, n_, n_, n_, n_, n_, n_, n_, n_, n_, n_, n_, n_, n_, n_, n_, n_, n_, n_, n_, n_, n_, n_, n_] rfl rfl (any_of HT_.out (by kernel_rfl)) (fun _ _ _ h => h) (Or.inl ⟨by rfl, ?_⟩) ?_ ?_
                      rotate_left
                      ·intro w'
                       go_simp
                       with_reducible rfl
                      rotate_left
                      ·simp only [Act.put, sI_, s0_, sS_, i64_w, i32_w]
                       rfl
                      refine pure_ (i := 9) (N := some 139) (v := ?_) (a' := ?_) #[y_, y_, y_, y_, y_, y_, n_, y_, y_, y_, n_, n_, n_, n_, n_, n_, n_, n_, n_, n_, n_, n_, n_, n_, n_, n_, n_, n_, n_, n_, n_, n_, n_, n_, n_, n_, n_, n_, n_, n_, n_] rfl rfl (any_of HT_.out (by kernel_rfl)) (fun _ _ _ h => h) (Or.inl ⟨by rfl, ?_⟩) ?_ ?_
                      rotate_left
                      ·intro w'
                       go_simp
                       with_reducible rfl
                      rotate_left
                      ·simp only [Act.put, sI_, s0_, sS_, i64_w, i32_w]
                       rfl
                      refine pure_ (i := 10) (N := some 140) (v := ?_) (a' := ?_) #[y_, y_, y_, y_, y_, y_, n_, y_, y_, y_, y_, n_, n_, n_, n_, n_, n_, n_, n_, n_, n_, n_, n_, n_, n_, n_, n_, n_, n_, n_, n_, n_, n_, n_, n_, n_, n_, n_, n_, n_, n_] rfl rfl (any_of HT_.out (by kernel_rfl)) (fun _ _ _ h => h) (Or.inl ⟨by rfl, ?_⟩) ?_ ?_
                      rotate_left
                      ·intro w'
                       go_simp
                       with_reducible rfl
                      rotate_left
                      ·simp only [Act.put, sI_, s0_, sS_, i64_w, i32_w]
                       rfl
                      refine take_ (i := 6) (N := some 136) (v := ?_) (a' := ?_) #[y_, y_, y_, y_, y_, y_, y_, y_, y_, y_, y_, n_, n_, n_, n_, n_, n_, n_, n_, n_, n_, n_, n_, n_, n_, n_, n_, n_, n_, n_, n_, n_, n_, n_, n_, n_, n_, n_, n_, n_, n_] rfl rfl (take_ofW HT_.out HW_.out (by kernel_rfl)) (fun _ _ _ h => h) (Or.inl ⟨by rfl, ?_⟩) hHeld ?_ ?_
                      rotate_left
                      ·rintro w' ⟨s0, s1, s2, s3⟩
                       go_simp
                       with_reducible rfl
                      rotate_left
                      ·simp only [Act.put, sI_, s0_, sS_, i64_w, i32_w]
                       rfl
                      refine take_ (i := 11) (N := some 141) (v := ?_) (a' := ?_) #[y_, y_, y_, y_, y_, y_, y_, y_, y_, y_, y_, y_, n_, n_, n_, n_, n_, n_, n_, n_, n_, n_, n_, n_, n_, n_, n_, n_, n_, n_, n_, n_, n_, n_, n_, n_, n_, n_, n_, n_, n_] rfl rfl (take_ofW HT_.out HW_.out (by kernel_rfl)) (fun _ _ _ h => h) (Or.inl ⟨by rfl, ?_⟩) hHeld ?_ ?_
                      rotate_left
                      ·rintro w' ⟨s0, s1, s2, s3⟩
                       go_simp
                       with_reducible rfl
                      rotate_left
                      ·simp only [Act.put, sI_, s0_, sS_, i64_w, i32_w]
                       rfl
                      refine pure_ (i := 12) (N := some 142) (v := ?_) (a' := ?_) #[y_, y_, y_, y_, y_, y_, y_, y_, y_, y_, y_, y_, y_, n_, n_, n_, n_, n_, n_, n_, n_, n_, n_, n_, n_, n_, n_, n_, n_, n_, n_, n_, n_, n_, n_, n_, n_, n_, n_, n_, n_] rfl rfl (any_of HT_.out (by kernel_rfl)) (fun _ _ _ h => h) (Or.inl ⟨by rfl, ?_⟩) ?_ ?_
                      rotate_left
                      ·intro w'
                       go_simp
                       with_reducible rfl
                      rotate_left
                      ·simp only [Act.put, sI_, s0_, sS_, i64_w, i32_w]
                       rfl
                      refine pure_ (i := 13) (N := some 143) (v := ?_) (a' := ?_) #[y_, y_, y_, y_, y_, y_, y_, y_, y_, y_, y_, y_, y_, y_, n_, n_, n_, n_, n_, n_, n_, n_, n_, n_, n_, n_, n_, n_, n_, n_, n_, n_, n_, n_, n_, n_, n_, n_, n_, n_, n_] rfl rfl (any_of HT_.out (by kernel_rfl)) (fun _ _ _ h => h) (Or.inl ⟨by rfl, ?_⟩) ?_ ?_
                      rotate_left
                      ·intro w'
                       go_simp
                       with_reducible rfl
                      rotate_left
                      ·simp only [Act.put, sI_, s0_, sS_, i64_w, i32_w]
                       rfl
                      refine pure_ (i := 14) (N := some 144) (v := ?_) (a' := ?_) #[y_, y_, y_, y_, y_, y_, y_, y_, y_, y_, y_, y_, y_, y_, y_, n_, n_, n_, n_, n_, n_, n_, n_, n_, n_, n_, n_, n_, n_, n_, n_, n_, n_, n_, n_, n_, n_, n_, n_, n_, n_] rfl rfl (any_of HT_.out (by kernel_rfl)) (fun _ _ _ h => h) (Or.inl ⟨by rfl, ?_⟩) ?_ ?_
                      rotate_left
                      ·intro w'
                       go_simp
                       with_reducible rfl
                      rotate_left
                      ·simp only [Act.put, sI_, s0_, sS_, i64_w, i32_w]
                       rfl
                      refine pure_ (i := 15) (N := some 145) (v := undef) (a' := ?_) #[y_, y_, y_, y_, y_, y_, y_, y_, y_, y_, y_, y_, y_, y_, y_, y_, n_, n_, n_, n_, n_, n_, n_, n_, n_, n_, n_, n_, n_, n_, n_, n_, n_, n_, n_, n_, n_, n_, n_, n_, n_] rfl rfl (any_of HT_.out (by kernel_rfl)) (fun _ _ _ h => h) (Or.inr ⟨by rfl, rfl⟩) ?_ ?_
                      rotate_left
                      ·simp only [Act.put, sI_, s0_, sS_, i64_w, i32_w]
                       rfl
                      refine pure_ (i := 16) (N := some 146) (v := undef) (a' := ?_) #[y_, y_, y_, y_, y_, y_, y_, y_, y_, y_, y_, y_, y_, y_, y_, y_, y_, n_, n_, n_, n_, n_, n_, n_, n_, n_, n_, n_, n_, n_, n_, n_, n_, n_, n_, n_, n_, n_, n_, n_, n_] rfl rfl (any_of HT_.out (by kernel_rfl)) (fun _ _ _ h => h) (Or.inr ⟨by rfl, rfl⟩) ?_ ?_
                      rotate_left
                      ·simp only [Act.put, sI_, s0_, sS_, i64_w, i32_w]
                       rfl
                      refine pure_ (i := 17) (N := some 147) (v := undef) (a' := ?_) #[y_, y_, y_, y_, y_, y_, y_, y_, y_, y_, y_, y_, y_, y_, y_, y_, y_, y_, n_, n_, n_, n_, n_, n_, n_, n_, n_, n_, n_, n_, n_, n_, n_, n_, n_, n_, n_, n_, n_, n_, n_] rfl rfl (any_of HT_.out (by kernel_rfl)) (fun _ _ _ h => h) (Or.inr ⟨by rfl, rfl⟩) ?_ ?_
                      rotate_left
                      ·simp only [Act.put, sI_, s0_, sS_, i64_w, i32_w]
                       rfl
                      refine pure_ (i := 18) (N := some 148) (v := undef) (a' := ?_) #[y_, y_, y_, y_, y_, y_, y_, y_, y_, y_, y_, y_, y_, y_, y_, y_, y_, y_, y_, n_, n_, n_, n_, n_, n_, n_, n_, n_, n_, n_, n_, n_, n_, n_, n_, n_, n_, n_, n_, n_, n_] rfl rfl (any_of HT_.out (by kernel_rfl)) (fun _ _ _ h => h) (Or.inr ⟨by rfl, rfl⟩) ?_ ?_
                      rotate_left
                      ·simp only [Act.put, sI_, s0_, sS_, i64_w, i32_w]
                       rfl
                      refine pure_ (i := 19) (N := some 149) (v := undef) (a' := ?_) #[y_, y_, y_, y_, y_, y_, y_, y_, y_, y_, y_, y_, y_, y_, y_, y_, y_, y_, y_, y_, n_, n_, n_, n_, n_, n_, n_, n_, n_, n_, n_, n_, n_, n_, n_, n_, n_, n_, n_, n_, n_] rfl rfl (any_of HT_.out (by kernel_rfl)) (fun _ _ _ h => h) (Or.inr ⟨by rfl, rfl⟩) ?_ ?_
                      rotate_left
                      ·simp only [Act.put, sI_, s0_, sS_, i64_w, i32_w]
                       rfl
                      refine pure_ (i := 20) (N := some 150) (v := undef) (a' := ?_) #[y_, y_, y_, y_, y_, y_, y_, y_, y_, y_, y_, y_, y_, y_, y_, y_, y_, y_, y_, y_, y_, n_, n_, n_, n_, n_, n_, n_, n_, n_, n_, n_, n_, n_, n_, n_, n_, n_, n_, n_, n_] rfl rfl (any_of HT_.out (by kernel_rfl)) (fun _ _ _ h => h) (Or.inr ⟨by rfl, rfl⟩) ?_ ?_
                      rotate_left
                      ·simp only [Act.put, sI_, s0_, sS_, i64_w, i32_w]
                       rfl
                      refine pure_ (i := 21) (N := some 151) (v := undef) (a' := ?_) #[y_, y_, y_, y_, y_, y_, y_, y_, y_, y_, y_, y_, y_, y_, y_, y_, y_, y_, y_, y_, y_, y_, n_, n_, n_, n_, n_, n_, n_, n_, n_, n_, n_, n_, n_, n_, n_, n_, n_, n_, n_] rfl rfl (any_of HT_.out (by kernel_rfl)) (fun _ _ _ h => h) (Or.inr ⟨by rfl, rfl⟩) ?_ ?_
                      rotate_left
                      ·simp only [Act.put, sI_, s0_, sS_, i64_w, i32_w]
                       rfl
                      refine pure_ (i := 22) (N := some 152) (v := undef) (a' := ?_) #[y_, y_, y_, y_, y_, y_, y_, y_, y_, y_, y_, y_, y_, y_, y_, y_, y_, y_, y_, y_, y_, y_, y_, n_, n_, n_, n_, n_, n_, n_, n_, n_, n_, n_, n_, n_, n_, n_, n_, n_, n_] rfl rfl (any_of HT_.out (by kernel_rfl)) (fun _ _ _ h => h) (Or.inr ⟨by rfl, rfl⟩) ?_ ?_
                      rotate_left
                      ·simp only [Act.put, sI_, s0_, sS_, i64_w, i32_w]
                       rfl
                      refine pure_ (i := 23) (N := some 153) (v := undef) (a' := ?_) #[y_, y_, y_, y_, y_, y_, y_, y_, y_, y_, y_, y_, y_, y_, y_, y_, y_, y_, y_, y_, y_, y_, y_, y_, n_, n_, n_, n_, n_, n_, n_, n_, n_, n_, n_, n_, n_, n_, n_, n_, n_] rfl rfl (any_of HT_.out (by kernel_rfl)) (fun _ _ _ h => h) (Or.inr ⟨by rfl, rfl⟩) ?_ ?_
                      rotate_left
                      ·simp only [Act.put, sI_, s0_, sS_, i64_w, i32_w]
                       rfl
                      refine pure_ (i := 24) (N := some 154) (v := undef) (a' := ?_) #[y_, y_, y_, y_, y_, y_, y_, y_, y_, y_, y_, y_, y_, y_, y_, y_, y_, y_, y_, y_, y_, y_, y_, y_, y_, n_, n_, n_, n_, n_, n_, n_, n_, n_, n_, n_, n_, n_, n_, n_, n_] rfl rfl (any_of HT_.out (by kernel_rfl)) (fun _ _ _ h => h) (Or.inr ⟨by rfl, rfl⟩) ?_ ?_
                      rotate_left
                      ·simp only [Act.put, sI_, s0_, sS_, i64_w, i32_w]
                       rfl
                      refine pure_ (i := 25) (N := some 155) (v := undef) (a' := ?_) #[y_, y_, y_, y_, y_, y_, y_, y_, y_, y_, y_, y_, y_, y_, y_, y_, y_, y_, y_, y_, y_, y_, y_, y_, y_, y_, n_, n_, n_, n_, n_, n_, n_, n_, n_, n_, n_, n_, n_, n_, n_] rfl rfl (any_of HT_.out (by kernel_rfl)) (fun _ _ _ h => h) (Or.inr ⟨by rfl, rfl⟩) ?_ ?_
                      rotate_left
                      ·simp only [Act.put, sI_, s0_, sS_, i64_w, i32_w]
                       rfl
                      refine pure_ (i := 26) (N := some 156) (v := ?_) (a' := ?_) #[y_, y_, y_, y_, y_, y_, y_, y_, y_, y_, y_, y_, y_, y_, y_, y_, y_, y_, y_, y_, y_, y_, y_, y_, y_, y_, y_, n_, n_, n_, n_, n_, n_, n_, n_, n_, n_, n_, n_, n_, n_] rfl rfl (any_of HT_.out (by kernel_rfl)) (fun _ _ _ h => h) (Or.inl ⟨by rfl, ?_⟩) ?_ ?_
                      rotate_left
                      ·intro w'
                       go_simp
                       with_reducible rfl
                      rotate_left
                      ·simp only [Act.put, sI_, s0_, sS_, i64_w, i32_w]
                       rfl
                      refine pure_ (i := 27) (N := some 157) (v := ?_) (a' := ?_) #[y_, y_, y_, y_, y_, y_, y_, y_, y_, y_, y_, y_, y_, y_, y_, y_, y_, y_, y_, y_, y_, y_, y_, y_, y_, y_, y_, y_, n_, n_, n_, n_, n_, n_, n_, n_, n_, n_, n_, n_, n_] rfl rfl (any_of HT_.out (by kernel_rfl)) (fun _ _ _ h => h) (Or.inl ⟨by rfl, ?_⟩) ?_ ?_
                      rotate_left
                      ·intro w'
                       go_simp
                       with_reducible rfl
                      rotate_left
                      ·simp only [Act.put, sI_, s0_, sS_, i64_w, i32_w]
                       rfl
                      refine pure_ (i := 28) (N := some 158) (v := undef) (a' := ?_) #[y_, y_, y_, y_, y_, y_, y_, y_, y_, y_, y_, y_, y_, y_, y_, y_, y_, y_, y_, y_, y_, y_, y_, y_, y_, y_, y_, y_, y_, n_, n_, n_, n_, n_, n_, n_, n_, n_, n_, n_, n_] rfl rfl (any_of HT_.out (by kernel_rfl)) (fun _ _ _ h => h) (Or.inr ⟨by rfl, rfl⟩) ?_ ?_
                      rotate_left
                      ·simp only [Act.put, sI_, s0_, sS_, i64_w, i32_w]
                       rfl
                      refine pure_ (i := 29) (N := some 159) (v := undef) (a' := ?_) #[y_, y_, y_, y_, y_, y_, y_, y_, y_, y_, y_, y_, y_, y_, y_, y_, y_, y_, y_, y_, y_, y_, y_, y_, y_, y_, y_, y_, y_, y_, n_, n_, n_, n_, n_, n_, n_, n_, n_, n_, n_] rfl rfl (any_of HT_.out (by kernel_rfl)) (fun _ _ _ h => h) (Or.inr ⟨by rfl, rfl⟩) ?_ ?_
                      rotate_left
                      ·simp only [Act.put, sI_, s0_, sS_, i64_w, i32_w]
                       rfl
                      refine pure_ (i := 30) (N := some 160) (v := undef) (a' := ?_) #[y_, y_, y_, y_, y_, y_, y_, y_, y_, y_, y_, y_, y_, y_, y_, y_, y_, y_, y_, y_, y_, y_, y_, y_, y_, y_, y_, y_, y_, y_, y_, n_, n_, n_, n_, n_, n_, n_, n_, n_, n_] rfl rfl (any_of HT_.out (by kernel_rfl)) (fun _ _ _ h => h) (Or.inr ⟨by rfl, rfl⟩) ?_ ?_
                      rotate_left
                      ·simp only [Act.put, sI_, s0_, sS_, i64_w, i32_w]
                       rfl
                      refine pure_ (i := 31) (N := some 161) (v := undef) (a' := ?_) #[y_, y_, y_, y_, y_, y_, y_, y_, y_, y_, y_, y_, y_, y_, y_, y_, y_, y_, y_, y_, y_, y_, y_, y_, y_, y_, y_, y_, y_, y_, y_, y_, n_, n_, n_, n_, n_, n_, n_, n_, n_] rfl rfl (any_of HT_.out (by kernel_rfl)) (fun _ _ _ h => h) (Or.inr ⟨by rfl, rfl⟩) ?_ ?_
                      rotate_left
                      ·simp only [Act.put, sI_, s0_, sS_, i64_w, i32_w]
                       rfl
                      refine pure_ (i := 32) (N := some 162) (v := undef) (a' := ?_) #[y_, y_, y_, y_, y_, y_, y_, y_, y_, y_, y_, y_, y_, y_, y_, y_, y_, y_, y_, y_, y_, y_, y_, y_, y_, y_, y_, y_, y_, y_, y_, y_, y_, n_, n_, n_, n_, n_, n_, n_, n_] rfl rfl (any_of HT_.out (by kernel_rfl)) (fun _ _ _ h => h) (Or.inr ⟨by rfl, rfl⟩) ?_ ?_
                      rotate_left
                      ·simp only [Act.put, sI_, s0_, sS_, i64_w, i32_w]
                       rfl
                      refine pure_ (i := 33) (N := some 163) (v := undef) (a' := ?_) #[y_, y_, y_, y_, y_, y_, y_, y_, y_, y_, y_, y_, y_, y_, y_, y_, y_, y_, y_, y_, y_, y_, y_, y_, y_, y_, y_, y_, y_, y_, y_, y_, y_, y_, n_, n_, n_, n_, n_, n_, n_] rfl rfl (any_of HT_.out (by kernel_rfl)) (fun _ _ _ h => h) (Or.inr ⟨by rfl, rfl⟩) ?_ ?_
                      rotate_left
                      ·simp only [Act.put, sI_, s0_, sS_, i64_w, i32_w]
                       rfl
                      refine pure_ (i := 34) (N := some 164) (v := undef) (a' := ?_) #[y_, y_, y_, y_, y_, y_, y_, y_, y_, y_, y_, y_, y_, y_, y_, y_, y_, y_, y_, y_, y_, y_, y_, y_, y_, y_, y_, y_, y_, y_, y_, y_, y_, y_, y_, n_, n_, n_, n_, n_, n_] rfl rfl (any_of HT_.out (by kernel_rfl)) (fun _ _ _ h => h) (Or.inr ⟨by rfl, rfl⟩) ?_ ?_
                      rotate_left
                      ·simp only [Act.put, sI_, s0_, sS_, i64_w, i32_w]
                       rfl
                      refine pure_ (i := 35) (N := some 165) (v := undef) (a' := ?_) #[y_, y_, y_, y_, y_, y_, y_, y_, y_, y_, y_, y_, y_, y_, y_, y_, y_, y_, y_, y_, y_, y_, y_, y_, y_, y_, y_, y_, y_, y_, y_, y_, y_, y_, y_, y_, n_, n_, n_, n_, n_] rfl rfl (any_of HT_.out (by kernel_rfl)) (fun _ _ _ h => h) (Or.inr ⟨by rfl, rfl⟩) ?_ ?_
                      rotate_left
                      ·simp only [Act.put, sI_, s0_, sS_, i64_w, i32_w]
                       rfl
                      refine pure_ (i := 36) (N := some 166) (v := undef) (a' := ?_) #[y_, y_, y_, y_, y_, y_, y_, y_, y_, y_, y_, y_, y_, y_, y_, y_, y_, y_, y_, y_, y_, y_, y_, y_, y_, y_, y_, y_, y_, y_, y_, y_, y_, y_, y_, y_, y_, n_, n_, n_, n_] rfl rfl (any_of HT_.out (by kernel_rfl)) (fun _ _ _ h => h) (Or.inr ⟨by rfl, rfl⟩) ?_ ?_
                      rotate_left
                      ·simp only [Act.put, sI_, s0_, sS_, i64_w, i32_w]
                       rfl
                      refine pure_ (i := 37) (N := some 167) (v := undef) (a' := ?_) #[y_, y_, y_, y_, y_, y_, y_, y_, y_, y_, y_, y_, y_, y_, y_, y_, y_, y_, y_, y_, y_, y_, y_, y_, y_, y_, y_, y_, y_, y_, y_, y_, y_, y_, y_, y_, y_, y_, n_, n_, n_] rfl rfl (any_of HT_.out (by kernel_rfl)) (fun _ _ _ h => h) (Or.inr ⟨by rfl, rfl⟩) ?_ ?_
                      rotate_left
                      ·simp only [Act.put, sI_, s0_, sS_, i64_w, i32_w]
                       rfl
                      refine pure_ (i := 38) (N := some 168) (v := undef) (a' := ?_) #[y_, y_, y_, y_, y_, y_, y_, y_, y_, y_, y_, y_, y_, y_, y_, y_, y_, y_, y_, y_, y_, y_, y_, y_, y_, y_, y_, y_, y_, y_, y_, y_, y_, y_, y_, y_, y_, y_, y_, n_, n_] rfl rfl (any_of HT_.out (by kernel_rfl)) (fun _ _ _ h => h) (Or.inr ⟨by rfl, rfl⟩) ?_ ?_
                      rotate_left
                      ·simp only [Act.put, sI_, s0_, sS_, i64_w, i32_w]
                       rfl
                      refine pure_ (i := 39) (N := some 169) (v := ?_) (a' := ?_) #[y_, y_, y_, y_, y_, y_, y_, y_, y_, y_, y_, y_, y_, y_, y_, y_, y_, y_, y_, y_, y_, y_, y_, y_, y_, y_, y_, y_, y_, y_, y_, y_, y_, y_, y_, y_, y_, y_, y_, y_, n_] rfl rfl (any_of HT_.out (by kernel_rfl)) (fun _ _ _ h => h) (Or.inl ⟨by rfl, ?_⟩) ?_ ?_
                      rotate_left
                      ·intro w'
                       go_simp
                       with_reducible rfl
                      rotate_left
                      ·simp only [Act.put, sI_, s0_, sS_, i64_w, i32_w]
                       rfl
                      refine pure_ (i := 40) (N := some 7) (v := ?_) (a' := ?_) #[y_, y_, y_, y_, y_, y_, y_, y_, y_, y_, y_, y_, y_, y_, y_, y_, y_, y_, y_, y_, y_, y_, y_, y_, y_, y_, y_, y_, y_, y_, y_, y_, y_, y_, y_, y_, y_, y_, y_, y_, y_] rfl rfl (any_of HT_.out (by kernel_rfl)) (fun _ _ _ h => h) (Or.inl ⟨by rfl, ?_⟩) ?_ ?_
                      rotate_left
                      ·intro w'
                       go_simp
                       with_reducible rfl
                      rotate_left
                      ·simp only [Act.put, sI_, s0_, sS_, i64_w, i32_w]
                       rfl
                      refine done_ (done_of HT_.out (by kernel_rfl)) ?_
                      try go_wp2
                      go_roundg k4
                      case measure => have := HK1.out; have := HJ38.out; have := HJ48.out; have := HK4.out; omega
                      case rel => exact ⟨(false), (wrap64 (x127_4 + 1)), (by first | rfl | (simp; done) | (simp [*]; done)), (by first | rfl | (simp; done) | (simp [*]; done)), H', ⟨by have := HK1.out; have := HJ38.out; have := HJ48.out; have := HK4.out; omega⟩, ⟨by (try simp only [hl8_1]); (with_reducible repeat (first | apply Kd.R_alloc | apply Kd.R_drewN | apply Kd.R_drew)); exact HO_11.out⟩, ⟨by (try simp only [hl8_1]); (with_reducible repeat (first | apply Kd.R_alloc | apply Kd.R_drewN | apply Kd.R_drew)); exact HO_13.out⟩, ⟨by repeat (first | (with_reducible first | exact HB.out | apply below_alloc | apply pw_below_drewN | apply below_drew1) | exact HB.out)⟩⟩
                    ·rw [if_neg c57] at H
                     exact absurd H (by simp)
                   ·rw [if_neg c56] at H
                    exact absurd H (by simp)
                  ·rw [if_neg c55] at H
                   exact absurd H (by simp)
                 ·replace c54 := Bool.eq_false_iff.mpr c54
                  subst c54
                  have H1 : (cohousinglaw28_FlowKnowledge.l1 k4 false t514 t518 (t514.length : Int) (wrap64 (x127_4 + 1))) = some r := by rw [if_neg (show ¬ (false = true) by decide)] at H; exact H
                  clear H
                  have H := H1
                  clear H1
                  have H' := Aside0.mk H
                  clear H
                  try go_wp2
                  have n0_ := Aside0.mk (Kd.R_drew HO_11.out)
                  have n1_ := Aside0.mk (Kd.R_drew HO_13.out)
                  have n2_ := Aside0.mk (below_drew1 HB.out)
                  clear HO_11
                  clear HO_13
                  clear HB
                  have HO_11 := n0_
                  have HO_13 := n1_
                  have HB := n2_
                  clear n0_ n1_ n2_
                  refine start_ (n := 41) (S := fun w' => True) (ds := []) #[n_, n_, n_, n_, n_, n_, n_, n_, n_, n_, n_, n_, n_, n_, n_, n_, n_, n_, n_, n_, n_, n_, n_, n_, n_, n_, n_, n_, n_, n_, n_, n_, n_, n_, n_, n_, n_, n_, n_, n_, n_] (by kernel_rfl) rfl rfl trivial (fun hHeld => ?_); refine with_tabW cohousinglaw28_FlowKnowledge.tab27 cohousinglaw28_FlowKnowledge.bits27 (fun HT_ HW_ => ?_)
                  generalize wr.drew = w66 at HO_11 HO_13 HB hHeld ⊢
                  refine pure_ (i := 0) (N := some 130) (v := ?_) (a' := ?_) #[y_, n_, n_, n_, n_, n_, n_, n_, n_, n_, n_, n_, n_, n_, n_, n_, n_, n_, n_, n_, n_, n_, n_, n_, n_, n_, n_, n_, n_, n_, n_, n_, n_, n_, n_, n_, n_, n_, n_, n_, n_] rfl rfl (any_of HT_.out (by kernel_rfl)) (fun _ _ _ h => h) (Or.inl ⟨by rfl, ?_⟩) ?_ ?_
                  rotate_left
                  ·intro w'
                   go_simp
                   with_reducible rfl
                  rotate_left
                  ·simp only [Act.put, sI_, s0_, sS_, i64_w, i32_w]
                   rfl
                  refine pure_ (i := 1) (N := some 131) (v := ?_) (a' := ?_) #[y_, y_, n_, n_, n_, n_, n_, n_, n_, n_, n_, n_, n_, n_, n_, n_, n_, n_, n_, n_, n_, n_, n_, n_, n_, n_, n_, n_, n_, n_, n_, n_, n_, n_, n_, n_, n_, n_, n_, n_, n_] rfl rfl (any_of HT_.out (by kernel_rfl)) (fun _ _ _ h => h) (Or.inl ⟨by rfl, ?_⟩) ?_ ?_
                  rotate_left
                  ·intro w'
                   go_simp
                   with_reducible rfl
                  rotate_left
                  ·simp only [Act.put, sI_, s0_, sS_, i64_w, i32_w]
                   rfl
                  refine pure_ (i := 2) (N := some 132) (v := undef) (a' := ?_) #[y_, y_, y_, n_, n_, n_, n_, n_, n_, n_, n_, n_, n_, n_, n_, n_, n_, n_, n_, n_, n_, n_, n_, n_, n_, n_, n_, n_, n_, n_, n_, n_, n_, n_, n_, n_, n_, n_, n_, n_, n_] rfl rfl (any_of HT_.out (by kernel_rfl)) (fun _ _ _ h => h) (Or.inr ⟨by rfl, rfl⟩) ?_ ?_
                  rotate_left
                  ·simp only [Act.put, sI_, s0_, sS_, i64_w, i32_w]
                   rfl
                  refine pure_ (i := 3) (N := some 133) (v := undef) (a' := ?_) #[y_, y_, y_, y_, n_, n_, n_, n_, n_, n_, n_, n_, n_, n_, n_, n_, n_, n_, n_, n_, n_, n_, n_, n_, n_, n_, n_, n_, n_, n_, n_, n_, n_, n_, n_, n_, n_, n_, n_, n_, n_] rfl rfl (any_of HT_.out (by kernel_rfl)) (fun _ _ _ h => h) (Or.inr ⟨by rfl, rfl⟩) ?_ ?_
                  rotate_left
                  ·simp only [Act.put, sI_, s0_, sS_, i64_w, i32_w]
                   rfl
                  refine pure_ (i := 4) (N := some 134) (v := undef) (a' := ?_) #[y_, y_, y_, y_, y_, n_, n_, n_, n_, n_, n_, n_, n_, n_, n_, n_, n_, n_, n_, n_, n_, n_, n_, n_, n_, n_, n_, n_, n_, n_, n_, n_, n_, n_, n_, n_, n_, n_, n_, n_, n_] rfl rfl (any_of HT_.out (by kernel_rfl)) (fun _ _ _ h => h) (Or.inr ⟨by rfl, rfl⟩) ?_ ?_
                  rotate_left
                  ·simp only [Act.put, sI_, s0_, sS_, i64_w, i32_w]
                   rfl
                  refine pure_ (i := 5) (N := some 135) (v := undef) (a' := ?_) #[y_, y_, y_, y_, y_, y_, n_, n_, n_, n_, n_, n_, n_, n_, n_, n_, n_, n_, n_, n_, n_, n_, n_, n_, n_, n_, n_, n_, n_, n_, n_, n_, n_, n_, n_, n_, n_, n_, n_, n_, n_] rfl rfl (any_of HT_.out (by kernel_rfl)) (fun _ _ _ h => h) (Or.inr ⟨by rfl, rfl⟩) ?_ ?_
                  rotate_left
                  ·simp only [Act.put, sI_, s0_, sS_, i64_w, i32_w]
                   rfl
                  refine pure_ (i := 6) (N := some 136) (v := undef) (a' := ?_) #[y_, y_, y_, y_, y_, y_, y_, n_, n_, n_, n_, n_, n_, n_, n_, n_, n_, n_, n_, n_, n_, n_, n_, n_, n_, n_, n_, n_, n_, n_, n_, n_, n_, n_, n_, n_, n_, n_, n_, n_, n_] rfl rfl (any_of HT_.out (by kernel_rfl)) (fun _ _ _ h => h) (Or.inr ⟨by rfl, rfl⟩) ?_ ?_
                  rotate_left
                  ·simp only [Act.put, sI_, s0_, sS_, i64_w, i32_w]
                   rfl
                  refine pure_ (i := 7) (N := some 137) (v := undef) (a' := ?_) #[y_, y_, y_, y_, y_, y_, y_, y_, n_, n_, n_, n_, n_, n_, n_, n_, n_, n_, n_, n_, n_, n_, n_, n_, n_, n_, n_, n_, n_, n_, n_, n_, n_, n_, n_, n_, n_, n_, n_, n_, n_] rfl rfl (any_of HT_.out (by kernel_rfl)) (fun _ _ _ h => h) (Or.inr ⟨by rfl, rfl⟩) ?_ ?_
                  rotate_left
                  ·simp only [Act.put, sI_, s0_, sS_, i64_w, i32_w]
                   rfl
                  refine pure_ (i := 8) (N := some 138) (v := undef) (a' := ?_) #[y_, y_, y_, y_, y_, y_, y_, y_, y_, n_, n_, n_, n_, n_, n_, n_, n_, n_, n_, n_, n_, n_, n_, n_, n_, n_, n_, n_, n_, n_, n_, n_, n_, n_, n_, n_, n_, n_, n_, n_, n_] rfl rfl (any_of HT_.out (by kernel_rfl)) (fun _ _ _ h => h) (Or.inr ⟨by rfl, rfl⟩) ?_ ?_
                  rotate_left
                  ·simp only [Act.put, sI_, s0_, sS_, i64_w, i32_w]
                   rfl
                  refine pure_ (i := 9) (N := some 139) (v := undef) (a' := ?_) #[y_, y_, y_, y_, y_, y_, y_, y_, y_, y_, n_, n_, n_, n_, n_, n_, n_, n_, n_, n_, n_, n_, n_, n_, n_, n_, n_, n_, n_, n_, n_, n_, n_, n_, n_, n_, n_, n_, n_, n_, n_] rfl rfl (any_of HT_.out (by kernel_rfl)) (fun _ _ _ h => h) (Or.inr ⟨by rfl, rfl⟩) ?_ ?_
                  rotate_left
                  ·simp only [Act.put, sI_, s0_, sS_, i64_w, i32_w]
                   rfl
                  refine pure_ (i := 10) (N := some 140) (v := undef) (a' := ?_) #[y_, y_, y_, y_, y_, y_, y_, y_, y_, y_, y_, n_, n_, n_, n_, n_, n_, n_, n_, n_, n_, n_, n_, n_, n_, n_, n_, n_, n_, n_, n_, n_, n_, n_, n_, n_, n_, n_, n_, n_, n_] rfl rfl (any_of HT_.out (by kernel_rfl)) (fun _ _ _ h => h) (Or.inr ⟨by rfl, rfl⟩) ?_ ?_
                  rotate_left
                  ·simp only [Act.put, sI_, s0_, sS_, i64_w, i32_w]
                   rfl
                  refine pure_ (i := 11) (N := some 141) (v := undef) (a' := ?_) #[y_, y_, y_, y_, y_, y_, y_, y_, y_, y_, y_, y_, n_, n_, n_, n_, n_, n_, n_, n_, n_, n_, n_, n_, n_, n_, n_, n_, n_, n_, n_, n_, n_, n_, n_, n_, n_, n_, n_, n_, n_] rfl rfl (any_of HT_.out (by kernel_rfl)) (fun _ _ _ h => h) (Or.inr ⟨by rfl, rfl⟩) ?_ ?_
                  rotate_left
                  ·simp only [Act.put, sI_, s0_, sS_, i64_w, i32_w]
                   rfl
                  refine pure_ (i := 12) (N := some 142) (v := undef) (a' := ?_) #[y_, y_, y_, y_, y_, y_, y_, y_, y_, y_, y_, y_, y_, n_, n_, n_, n_, n_, n_, n_, n_, n_, n_, n_, n_, n_, n_, n_, n_, n_, n_, n_, n_, n_, n_, n_, n_, n_, n_, n_, n_] rfl rfl (any_of HT_.out (by kernel_rfl)) (fun _ _ _ h => h) (Or.inr ⟨by rfl, rfl⟩) ?_ ?_
                  rotate_left
                  ·simp only [Act.put, sI_, s0_, sS_, i64_w, i32_w]
                   rfl
                  refine pure_ (i := 13) (N := some 143) (v := ?_) (a' := ?_) #[y_, y_, y_, y_, y_, y_, y_, y_, y_, y_, y_, y_, y_, y_, n_, n_, n_, n_, n_, n_, n_, n_, n_, n_, n_, n_, n_, n_, n_, n_, n_, n_, n_, n_, n_, n_, n_, n_, n_, n_, n_] rfl rfl (any_of HT_.out (by kernel_rfl)) (fun _ _ _ h => h) (Or.inl ⟨by rfl, ?_⟩) ?_ ?_
                  rotate_left
                  ·intro w'
                   go_simp
                   with_reducible rfl
                  rotate_left
                  ·simp only [Act.put, sI_, s0_, sS_, i64_w, i32_w]
                   rfl
                  refine pure_ (i := 14) (N := some 144) (v := ?_) (a' := ?_) #[y_, y_, y_, y_, y_, y_, y_, y_, y_, y_, y_, y_, y_, y_, y_, n_, n_, n_, n_, n_, n_, n_, n_, n_, n_, n_, n_, n_, n_, n_, n_, n_, n_, n_, n_, n_, n_, n_, n_, n_, n_] rfl rfl (any_of HT_.out (by kernel_rfl)) (fun _ _ _ h => h) (Or.inl ⟨by rfl, ?_⟩) ?_ ?_
                  rotate_left
                  ·intro w'
                   go_simp
                   with_reducible rfl
                  rotate_left
                  ·simp only [Act.put, sI_, s0_, sS_, i64_w, i32_w]
                   rfl
                  refine pure_ (i := 15) (N := some 145) (v := undef) (a' := ?_) #[y_, y_, y_, y_, y_, y_, y_, y_, y_, y_, y_, y_, y_, y_, y_, y_, n_, n_, n_, n_, n_, n_, n_, n_, n_, n_, n_, n_, n_, n_, n_, n_, n_, n_, n_, n_, n_, n_, n_, n_, n_] rfl rfl (any_of HT_.out (by kernel_rfl)) (fun _ _ _ h => h) (Or.inr ⟨by rfl, rfl⟩) ?_ ?_
                  rotate_left
                  ·simp only [Act.put, sI_, s0_, sS_, i64_w, i32_w]
                   rfl
                  refine pure_ (i := 16) (N := some 146) (v := undef) (a' := ?_) #[y_, y_, y_, y_, y_, y_, y_, y_, y_, y_, y_, y_, y_, y_, y_, y_, y_, n_, n_, n_, n_, n_, n_, n_, n_, n_, n_, n_, n_, n_, n_, n_, n_, n_, n_, n_, n_, n_, n_, n_, n_] rfl rfl (any_of HT_.out (by kernel_rfl)) (fun _ _ _ h => h) (Or.inr ⟨by rfl, rfl⟩) ?_ ?_
                  rotate_left
                  ·simp only [Act.put, sI_, s0_, sS_, i64_w, i32_w]
                   rfl
                  refine pure_ (i := 17) (N := some 147) (v := undef) (a' := ?_) #[y_, y_, y_, y_, y_, y_, y_, y_, y_, y_, y_, y_, y_, y_, y_, y_, y_, y_, n_, n_, n_, n_, n_, n_, n_, n_, n_, n_, n_, n_, n_, n_, n_, n_, n_, n_, n_, n_, n_, n_, n_] rfl rfl (any_of HT_.out (by kernel_rfl)) (fun _ _ _ h => h) (Or.inr ⟨by rfl, rfl⟩) ?_ ?_
                  rotate_left
                  ·simp only [Act.put, sI_, s0_, sS_, i64_w, i32_w]
                   rfl
                  refine pure_ (i := 18) (N := some 148) (v := undef) (a' := ?_) #[y_, y_, y_, y_, y_, y_, y_, y_, y_, y_, y_, y_, y_, y_, y_, y_, y_, y_, y_, n_, n_, n_, n_, n_, n_, n_, n_, n_, n_, n_, n_, n_, n_, n_, n_, n_, n_, n_, n_, n_, n_] rfl rfl (any_of HT_.out (by kernel_rfl)) (fun _ _ _ h => h) (Or.inr ⟨by rfl, rfl⟩) ?_ ?_
                  rotate_left
                  ·simp only [Act.put, sI_, s0_, sS_, i64_w, i32_w]
                   rfl
                  refine pure_ (i := 19) (N := some 149) (v := undef) (a' := ?_) #[y_, y_, y_, y_, y_, y_, y_, y_, y_, y_, y_, y_, y_, y_, y_, y_, y_, y_, y_, y_, n_, n_, n_, n_, n_, n_, n_, n_, n_, n_, n_, n_, n_, n_, n_, n_, n_, n_, n_, n_, n_] rfl rfl (any_of HT_.out (by kernel_rfl)) (fun _ _ _ h => h) (Or.inr ⟨by rfl, rfl⟩) ?_ ?_
                  rotate_left
                  ·simp only [Act.put, sI_, s0_, sS_, i64_w, i32_w]
                   rfl
                  refine pure_ (i := 20) (N := some 150) (v := undef) (a' := ?_) #[y_, y_, y_, y_, y_, y_, y_, y_, y_, y_, y_, y_, y_, y_, y_, y_, y_, y_, y_, y_, y_, n_, n_, n_, n_, n_, n_, n_, n_, n_, n_, n_, n_, n_, n_, n_, n_, n_, n_, n_, n_] rfl rfl (any_of HT_.out (by kernel_rfl)) (fun _ _ _ h => h) (Or.inr ⟨by rfl, rfl⟩) ?_ ?_
                  rotate_left
                  ·simp only [Act.put, sI_, s0_, sS_, i64_w, i32_w]
                   rfl
                  refine pure_ (i := 21) (N := some 151) (v := undef) (a' := ?_) #[y_, y_, y_, y_, y_, y_, y_, y_, y_, y_, y_, y_, y_, y_, y_, y_, y_, y_, y_, y_, y_, y_, n_, n_, n_, n_, n_, n_, n_, n_, n_, n_, n_, n_, n_, n_, n_, n_, n_, n_, n_] rfl rfl (any_of HT_.out (by kernel_rfl)) (fun _ _ _ h => h) (Or.inr ⟨by rfl, rfl⟩) ?_ ?_
                  rotate_left
                  ·simp only [Act.put, sI_, s0_, sS_, i64_w, i32_w]
                   rfl
                  refine pure_ (i := 22) (N := some 152) (v := undef) (a' := ?_) #[y_, y_, y_, y_, y_, y_, y_, y_, y_, y_, y_, y_, y_, y_, y_, y_, y_, y_, y_, y_, y_, y_, y_, n_, n_, n_, n_, n_, n_, n_, n_, n_, n_, n_, n_, n_, n_, n_, n_, n_, n_] rfl rfl (any_of HT_.out (by kernel_rfl)) (fun _ _ _ h => h) (Or.inr ⟨by rfl, rfl⟩) ?_ ?_
                  rotate_left
                  ·simp only [Act.put, sI_, s0_, sS_, i64_w, i32_w]
                   rfl
                  refine pure_ (i := 23) (N := some 153) (v := undef) (a' := ?_) #[y_, y_, y_, y_, y_, y_, y_, y_, y_, y_, y_, y_, y_, y_, y_, y_, y_, y_, y_, y_, y_, y_, y_, y_, n_, n_, n_, n_, n_, n_, n_, n_, n_, n_, n_, n_, n_, n_, n_, n_, n_] rfl rfl (any_of HT_.out (by kernel_rfl)) (fun _ _ _ h => h) (Or.inr ⟨by rfl, rfl⟩) ?_ ?_
                  rotate_left
                  ·simp only [Act.put, sI_, s0_, sS_, i64_w, i32_w]
                   rfl
                  refine pure_ (i := 24) (N := some 154) (v := undef) (a' := ?_) #[y_, y_, y_, y_, y_, y_, y_, y_, y_, y_, y_, y_, y_, y_, y_, y_, y_, y_, y_, y_, y_, y_, y_, y_, y_, n_, n_, n_, n_, n_, n_, n_, n_, n_, n_, n_, n_, n_, n_, n_, n_] rfl rfl (any_of HT_.out (by kernel_rfl)) (fun _ _ _ h => h) (Or.inr ⟨by rfl, rfl⟩) ?_ ?_
                  rotate_left
                  ·simp only [Act.put, sI_, s0_, sS_, i64_w, i32_w]
                   rfl
                  refine pure_ (i := 25) (N := some 155) (v := undef) (a' := ?_) #[y_, y_, y_, y_, y_, y_, y_, y_, y_, y_, y_, y_, y_, y_, y_, y_, y_, y_, y_, y_, y_, y_, y_, y_, y_, y_, n_, n_, n_, n_, n_, n_, n_, n_, n_, n_, n_, n_, n_, n_, n_] rfl rfl (any_of HT_.out (by kernel_rfl)) (fun _ _ _ h => h) (Or.inr ⟨by rfl, rfl⟩) ?_ ?_
                  rotate_left
                  ·simp only [Act.put, sI_, s0_, sS_, i64_w, i32_w]
                   rfl
                  refine pure_ (i := 26) (N := some 156) (v := ?_) (a' := ?_) #[y_, y_, y_, y_, y_, y_, y_, y_, y_, y_, y_, y_, y_, y_, y_, y_, y_, y_, y_, y_, y_, y_, y_, y_, y_, y_, y_, n_, n_, n_, n_, n_, n_, n_, n_, n_, n_, n_, n_, n_, n_] rfl rfl (any_of HT_.out (by kernel_rfl)) (fun _ _ _ h => h) (Or.inl ⟨by rfl, ?_⟩) ?_ ?_
                  rotate_left
                  ·intro w'
                   go_simp
                   with_reducible rfl
                  rotate_left
                  ·simp only [Act.put, sI_, s0_, sS_, i64_w, i32_w]
                   rfl
                  refine pure_ (i := 27) (N := some 157) (v := ?_) (a' := ?_) #[y_, y_, y_, y_, y_, y_, y_, y_, y_, y_, y_, y_, y_, y_, y_, y_, y_, y_, y_, y_, y_, y_, y_, y_, y_, y_, y_, y_, n_, n_, n_, n_, n_, n_, n_, n_, n_, n_, n_, n_, n_] rfl rfl (any_of HT_.out (by kernel_rfl)) (fun _ _ _ h => h) (Or.inl ⟨by rfl, ?_⟩) ?_ ?_
                  rotate_left
                  ·intro w'
                   go_simp
                   with_reducible rfl
                  rotate_left
                  ·simp only [Act.put, sI_, s0_, sS_, i64_w, i32_w]
                   rfl
                  refine pure_ (i := 28) (N := some 158) (v := undef) (a' := ?_) #[y_, y_, y_, y_, y_, y_, y_, y_, y_, y_, y_, y_, y_, y_, y_, y_, y_, y_, y_, y_, y_, y_, y_, y_, y_, y_, y_, y_, y_, n_, n_, n_, n_, n_, n_, n_, n_, n_, n_, n_, n_] rfl rfl (any_of HT_.out (by kernel_rfl)) (fun _ _ _ h => h) (Or.inr ⟨by rfl, rfl⟩) ?_ ?_
                  rotate_left
                  ·simp only [Act.put, sI_, s0_, sS_, i64_w, i32_w]
                   rfl
                  refine pure_ (i := 29) (N := some 159) (v := undef) (a' := ?_) #[y_, y_, y_, y_, y_, y_, y_, y_, y_, y_, y_, y_, y_, y_, y_, y_, y_, y_, y_, y_, y_, y_, y_, y_, y_, y_, y_, y_, y_, y_, n_, n_, n_, n_, n_, n_, n_, n_, n_, n_, n_] rfl rfl (any_of HT_.out (by kernel_rfl)) (fun _ _ _ h => h) (Or.inr ⟨by rfl, rfl⟩) ?_ ?_
                  rotate_left
                  ·simp only [Act.put, sI_, s0_, sS_, i64_w, i32_w]
                   rfl
                  refine pure_ (i := 30) (N := some 160) (v := undef) (a' := ?_) #[y_, y_, y_, y_, y_, y_, y_, y_, y_, y_, y_, y_, y_, y_, y_, y_, y_, y_, y_, y_, y_, y_, y_, y_, y_, y_, y_, y_, y_, y_, y_, n_, n_, n_, n_, n_, n_, n_, n_, n_, n_] rfl rfl (any_of HT_.out (by kernel_rfl)) (fun _ _ _ h => h) (Or.inr ⟨by rfl, rfl⟩) ?_ ?_
                  rotate_left
                  ·simp only [Act.put, sI_, s0_, sS_, i64_w, i32_w]
                   rfl
                  refine pure_ (i := 31) (N := some 161) (v := undef) (a' := ?_) #[y_, y_, y_, y_, y_, y_, y_, y_, y_, y_, y_, y_, y_, y_, y_, y_, y_, y_, y_, y_, y_, y_, y_, y_, y_, y_, y_, y_, y_, y_, y_, y_, n_, n_, n_, n_, n_, n_, n_, n_, n_] rfl rfl (any_of HT_.out (by kernel_rfl)) (fun _ _ _ h => h) (Or.inr ⟨by rfl, rfl⟩) ?_ ?_
                  rotate_left
                  ·simp only [Act.put, sI_, s0_, sS_, i64_w, i32_w]
                   rfl
                  refine pure_ (i := 32) (N := some 162) (v := undef) (a' := ?_) #[y_, y_, y_, y_, y_, y_, y_, y_, y_, y_, y_, y_, y_, y_, y_, y_, y_, y_, y_, y_, y_, y_, y_, y_, y_, y_, y_, y_, y_, y_, y_, y_, y_, n_, n_, n_, n_, n_, n_, n_, n_] rfl rfl (any_of HT_.out (by kernel_rfl)) (fun _ _ _ h => h) (Or.inr ⟨by rfl, rfl⟩) ?_ ?_
                  rotate_left
                  ·simp only [Act.put, sI_, s0_, sS_, i64_w, i32_w]
                   rfl
                  refine pure_ (i := 33) (N := some 163) (v := undef) (a' := ?_) #[y_, y_, y_, y_, y_, y_, y_, y_, y_, y_, y_, y_, y_, y_, y_, y_, y_, y_, y_, y_, y_, y_, y_, y_, y_, y_, y_, y_, y_, y_, y_, y_, y_, y_, n_, n_, n_, n_, n_, n_, n_] rfl rfl (any_of HT_.out (by kernel_rfl)) (fun _ _ _ h => h) (Or.inr ⟨by rfl, rfl⟩) ?_ ?_
                  rotate_left
                  ·simp only [Act.put, sI_, s0_, sS_, i64_w, i32_w]
                   rfl
                  refine pure_ (i := 34) (N := some 164) (v := undef) (a' := ?_) #[y_, y_, y_, y_, y_, y_, y_, y_, y_, y_, y_, y_, y_, y_, y_, y_, y_, y_, y_, y_, y_, y_, y_, y_, y_, y_, y_, y_, y_, y_, y_, y_, y_, y_, y_, n_, n_, n_, n_, n_, n_] rfl rfl (any_of HT_.out (by kernel_rfl)) (fun _ _ _ h => h) (Or.inr ⟨by rfl, rfl⟩) ?_ ?_
                  rotate_left
                  ·simp only [Act.put, sI_, s0_, sS_, i64_w, i32_w]
                   rfl
                  refine pure_ (i := 35) (N := some 165) (v := undef) (a' := ?_) #[y_, y_, y_, y_, y_, y_, y_, y_, y_, y_, y_, y_, y_, y_, y_, y_, y_, y_, y_, y_, y_, y_, y_, y_, y_, y_, y_, y_, y_, y_, y_, y_, y_, y_, y_, y_, n_, n_, n_, n_, n_] rfl rfl (any_of HT_.out (by kernel_rfl)) (fun _ _ _ h => h) (Or.inr ⟨by rfl, rfl⟩) ?_ ?_
                  rotate_left
                  ·simp only [Act.put, sI_, s0_, sS_, i64_w, i32_w]
                   rfl
                  refine pure_ (i := 36) (N := some 166) (v := undef) (a' := ?_) #[y_, y_, y_, y_, y_, y_, y_, y_, y_, y_, y_, y_, y_, y_, y_, y_, y_, y_, y_, y_, y_, y_, y_, y_, y_, y_, y_, y_, y_, y_, y_, y_, y_, y_, y_, y_, y_, n_, n_, n_, n_] rfl rfl (any_of HT_.out (by kernel_rfl)) (fun _ _ _ h => h) (Or.inr ⟨by rfl, rfl⟩) ?_ ?_
                  rotate_left
                  ·simp only [Act.put, sI_, s0_, sS_, i64_w, i32_w]
                   rfl
                  refine pure_ (i := 37) (N := some 167) (v := undef) (a' := ?_) #[y_, y_, y_, y_, y_, y_, y_, y_, y_, y_, y_, y_, y_, y_, y_, y_, y_, y_, y_, y_, y_, y_, y_, y_, y_, y_, y_, y_, y_, y_, y_, y_, y_, y_, y_, y_, y_, y_, n_, n_, n_] rfl rfl (any_of HT_.out (by kernel_rfl)) (fun _ _ _ h => h) (Or.inr ⟨by rfl, rfl⟩) ?_ ?_
                  rotate_left
                  ·simp only [Act.put, sI_, s0_, sS_, i64_w, i32_w]
                   rfl
                  refine pure_ (i := 38) (N := some 168) (v := undef) (a' := ?_) #[y_, y_, y_, y_, y_, y_, y_, y_, y_, y_, y_, y_, y_, y_, y_, y_, y_, y_, y_, y_, y_, y_, y_, y_, y_, y_, y_, y_, y_, y_, y_, y_, y_, y_, y_, y_, y_, y_, y_, n_, n_] rfl rfl (any_of HT_.out (by kernel_rfl)) (fun _ _ _ h => h) (Or.inr ⟨by rfl, rfl⟩) ?_ ?_
                  rotate_left
                  ·simp only [Act.put, sI_, s0_, sS_, i64_w, i32_w]
                   rfl
                  refine pure_ (i := 39) (N := some 169) (v := ?_) (a' := ?_) #[y_, y_, y_, y_, y_, y_, y_, y_, y_, y_, y_, y_, y_, y_, y_, y_, y_, y_, y_, y_, y_, y_, y_, y_, y_, y_, y_, y_, y_, y_, y_, y_, y_, y_, y_, y_, y_, y_, y_, y_, n_] rfl rfl (any_of HT_.out (by kernel_rfl)) (fun _ _ _ h => h) (Or.inl ⟨by rfl, ?_⟩) ?_ ?_
                  rotate_left
                  ·intro w'
                   go_simp
                   with_reducible rfl
                  rotate_left
                  ·simp only [Act.put, sI_, s0_, sS_, i64_w, i32_w]
                   rfl
                  refine pure_ (i := 40) (N := some 7) (v := ?_) (a' := ?_) #[y_, y_, y_, y_, y_, y_, y_, y_, y_, y_, y_, y_, y_, y_, y_, y_, y_, y_, y_, y_, y_, y_, y_, y_, y_, y_, y_, y_, y_, y_, y_, y_, y_, y_, y_, y_, y_, y_, y_, y_, y_] rfl rfl (any_of HT_.out (by kernel_rfl)) (fun _ _ _ h => h) (Or.inl ⟨by rfl, ?_⟩) ?_ ?_
                  rotate_left
                  ·intro w'
                   go_simp
                   with_reducible rfl
                  rotate_left
                  ·simp only [Act.put, sI_, s0_, sS_, i64_w, i32_w]
                   rfl
                  refine done_ (done_of HT_.out (by kernel_rfl)) ?_
                  try go_wp2
                  go_roundg k4
                  case measure => have := HK1.out; have := HJ38.out; have := HJ48.out; have := HK4.out; omega
                  case rel => exact ⟨(false), (wrap64 (x127_4 + 1)), (by first | rfl | (simp; done) | (simp [*]; done)), (by first | rfl | (simp; done) | (simp [*]; done)), H', ⟨by have := HK1.out; have := HJ38.out; have := HJ48.out; have := HK4.out; omega⟩, ⟨by (try simp only [hl8_1]); (with_reducible repeat (first | apply Kd.R_alloc | apply Kd.R_drewN | apply Kd.R_drew)); exact HO_11.out⟩, ⟨by (try simp only [hl8_1]); (with_reducible repeat (first | apply Kd.R_alloc | apply Kd.R_drewN | apply Kd.R_drew)); exact HO_13.out⟩, ⟨by repeat (first | (with_reducible first | exact HB.out | apply below_alloc | apply pw_below_drewN | apply below_drew1) | exact HB.out)⟩⟩
                ·rw [if_neg c53] at H
                 have c53b0 : decide (x127_4 < (t514.length : Int)) = false := decide_eq_false c53
                 clear c53
                 obtain rfl := Option.some.inj H
                 go_wp2
                 go_ret
                 exact ⟨by first | rfl | (simp [errW_none, errW_some] <;> rfl) | (simp [*, errW_none, errW_some] <;> rfl), by repeat (first | (with_reducible first | exact HB.out | apply below_alloc | apply pw_below_drewN | apply below_drew1) | exact HB.out)⟩
          ·rw [if_neg c48] at H
           have c48b0 : (t519 == 0) = false := beq_eq_false_iff_ne.mpr c48
           have c48b1 : (t519 != 0) = true := bne_iff_ne.mpr c48
           by_cases c67 : t500 = true
           ·subst c67
            have H1 : (some (t519 == 30)) = some r := by rw [if_pos rfl] at H; exact H
            clear H
            have H := H1
            clear H1
            obtain rfl := Option.some.inj H
            go_wp2
            go_ret
            exact ⟨by first | rfl | (simp [errW_none, errW_some] <;> rfl) | (simp [*, errW_none, errW_some] <;> rfl), by repeat (first | (with_reducible first | exact HB.out | apply below_alloc | apply pw_below_drewN | apply below_drew1) | exact HB.out)⟩
           ·replace c67 := Bool.eq_false_iff.mpr c67
            subst c67
            have H1 : (some false) = some r := by rw [if_neg (show ¬ (false = true) by decide)] at H; exact H
            clear H
            have H := H1
            clear H1
            obtain rfl := Option.some.inj H
            go_wp2
            go_ret
            exact ⟨by first | rfl | (simp [errW_none, errW_some] <;> rfl) | (simp [*, errW_none, errW_some] <;> rfl), by repeat (first | (with_reducible first | exact HB.out | apply below_alloc | apply pw_below_drewN | apply below_drew1) | exact HB.out)⟩
      ·rw [if_neg c37] at H
       have c37b0 : (t515 == 0) = false := beq_eq_false_iff_ne.mpr c37
       have c37b1 : (t515 != 0) = true := bne_iff_ne.mpr c37
       by_cases c68 : t500 = true
       ·subst c68
        have H1 : (if t515 = 30 then (some (t519 == 30)) else (some false)) = some r := by rw [if_pos rfl] at H; exact H
        clear H
        have H := H1
        clear H1
        by_cases c69 : t515 = 30
        ·rw [if_pos c69] at H
         have c69b0 : (t515 == 30) = true := beq_iff_eq.mpr c69
         have c69b1 : (t515 != 30) = false := bne_eq_false_iff_eq.mpr c69
         clear c69
         obtain rfl := Option.some.inj H
         go_wp2_with (first | ((with_reducible refine gate_callee (f := 11) rfl ?_); refine goesL_ (some 72) rfl rfl Try.func11 (by kernel_rfl) rfl #[.slice A0 l0.length c0, .slice A1 l1.length c1] rfl (by (try simp only [List.map_toArray, List.map_cons, List.map_nil]); first | done | rfl | (simp only [List.length_drop, List.length_take]; rfl)) ?_; (with_reducible refine (flow_Bounds.calls _ _ l0 _ _ l1 t514 t515 _ ?side1 ?side2 ?side3 ?side4 A35.out).mono ?_); (case side1 => repeat (first | exact (Kd.C_below HR0.out HB.out) | (with_reducible refine Kd.C_alloc ?_ _) | (with_reducible refine Kd.C_drewN ?_ _) | (with_reducible refine Kd.C_drew ?_))); (case side2 => exact HC0.out); (case side3 => repeat (first | exact (Kd.C_below HR1.out HB.out) | (with_reducible refine Kd.C_alloc ?_ _) | (with_reducible refine Kd.C_drewN ?_ _) | (with_reducible refine Kd.C_drew ?_))); (case side4 => exact HC1.out); rintro e w70 ⟨v516, rfl, ho0, hb⟩; refine ⟨_, rfl, ?_⟩; have n0_ := Aside0.mk (Kd.R_elder' (by (with_reducible repeat (first | apply Kd.R_alloc | apply Kd.R_drewN | apply Kd.R_drew)); exact HO_8.out) (Kd.R_base ho0) hb); have n1_ := Aside0.mk (Kd.R_lower (Kd.R_new' ho0 (Kd.R_lt (by (with_reducible repeat (first | apply Kd.R_alloc | apply Kd.R_drewN | apply Kd.R_drew)); exact HO_8.out))) (below_size (by repeat (first | (with_reducible first | exact HB.out | apply below_alloc | apply pw_below_drewN | apply below_drew1) | exact HB.out)))); have n2_ := Aside0.mk (below_step (by repeat (first | (with_reducible first | exact HB.out | apply below_alloc | apply pw_below_drewN | apply below_drew1) | exact HB.out)) hb); clear HO_8; clear HB; have HO_8 := n0_; have HO517 := n1_; have HB := n2_; clear n0_ n1_ n2_; (try clear hb); (try clear hb2); (try clear hk); (try clear hi); (try clear ho0)) | ((with_reducible refine gate_callee (f := 11) rfl ?_); refine goesL_ (some 78) rfl rfl Try.func11 (by kernel_rfl) rfl #[.slice A0 l0.length c0, .slice Ao13 x8_1.length co13] rfl (by (try simp only [List.map_toArray, List.map_cons, List.map_nil]); first | done | rfl | (simp only [List.length_drop, List.length_take]; rfl)) ?_; (with_reducible refine (flow_Bounds.calls _ _ l0 _ _ x8_1 t518 t519 _ ?side1 ?side2 ?side3 ?side4 A36.out).mono ?_); (case side1 => repeat (first | exact (Kd.C_below HR0.out HB.out) | (with_reducible refine Kd.C_alloc ?_ _) | (with_reducible refine Kd.C_drewN ?_ _) | (with_reducible refine Kd.C_drew ?_))); (case side2 => exact HC0.out); (case side3 => repeat (first | exact (Kd.R_reads' HO_8.out).2.2 | (with_reducible refine Kd.C_alloc ?_ _) | (with_reducible refine Kd.C_drewN ?_ _) | (with_reducible refine Kd.C_drew ?_))); (case side4 => exact (Kd.R_reads' HO_8.out).2.1); rintro e w71 ⟨v520, rfl, ho0, hb⟩; refine ⟨_, rfl, ?_⟩; have n0_ := Aside0.mk (Kd.R_elder' (by (with_reducible repeat (first | apply Kd.R_alloc | apply Kd.R_drewN | apply Kd.R_drew)); exact HO_8.out) (Kd.R_base ho0) hb); have n1_ := Aside0.mk (Kd.R_elder' (by (with_reducible repeat (first | apply Kd.R_alloc | apply Kd.R_drewN | apply Kd.R_drew)); exact HO517.out) (Kd.R_base ho0) hb); have n2_ := Aside0.mk (Kd.R_lower (Kd.R_new' (Kd.R_new' ho0 (Kd.R_lt (by (with_reducible repeat (first | apply Kd.R_alloc | apply Kd.R_drewN | apply Kd.R_drew)); exact HO_8.out))) (Kd.R_lt (by (with_reducible repeat (first | apply Kd.R_alloc | apply Kd.R_drewN | apply Kd.R_drew)); exact HO517.out))) (below_size (by repeat (first | (with_reducible first | exact HB.out | apply below_alloc | apply pw_below_drewN | apply below_drew1) | exact HB.out)))); have n3_ := Aside0.mk (below_step (by repeat (first | (with_reducible first | exact HB.out | apply below_alloc | apply pw_below_drewN | apply below_drew1) | exact HB.out)) hb); clear HO_8; clear HO517; clear HB; have HO_8 := n0_; have HO517 := n1_; have HO521 := n2_; have HB := n3_; clear n0_ n1_ n2_ n3_; (try clear hb); (try clear hb2); (try clear hk); (try clear hi); (try clear ho0)))
         go_ret
         exact ⟨by first | rfl | (simp [errW_none, errW_some] <;> rfl) | (simp [*, errW_none, errW_some] <;> rfl), by repeat (first | (with_reducible first | exact HB.out | apply below_alloc | apply pw_below_drewN | apply below_drew1) | exact HB.out)⟩
        ·rw [if_neg c69] at H
         have c69b0 : (t515 == 30) = false := beq_eq_false_iff_ne.mpr c69
         have c69b1 : (t515 != 30) = true := bne_iff_ne.mpr c69
         obtain rfl := Option.some.inj H
         go_wp2_with (first | ((with_reducible refine gate_callee (f := 11) rfl ?_); refine goesL_ (some 72) rfl rfl Try.func11 (by kernel_rfl) rfl #[.slice A0 l0.length c0, .slice A1 l1.length c1] rfl (by (try simp only [List.map_toArray, List.map_cons, List.map_nil]); first | done | rfl | (simp only [List.length_drop, List.length_take]; rfl)) ?_; (with_reducible refine (flow_Bounds.calls _ _ l0 _ _ l1 t514 t515 _ ?side1 ?side2 ?side3 ?side4 A35.out).mono ?_); (case side1 => repeat (first | exact (Kd.C_below HR0.out HB.out) | (with_reducible refine Kd.C_alloc ?_ _) | (with_reducible refine Kd.C_drewN ?_ _) | (with_reducible refine Kd.C_drew ?_))); (case side2 => exact HC0.out); (case side3 => repeat (first | exact (Kd.C_below HR1.out HB.out) | (with_reducible refine Kd.C_alloc ?_ _) | (with_reducible refine Kd.C_drewN ?_ _) | (with_reducible refine Kd.C_drew ?_))); (case side4 => exact HC1.out); rintro e w72 ⟨v516, rfl, ho0, hb⟩; refine ⟨_, rfl, ?_⟩; have n0_ := Aside0.mk (Kd.R_elder' (by (with_reducible repeat (first | apply Kd.R_alloc | apply Kd.R_drewN | apply Kd.R_drew)); exact HO_8.out) (Kd.R_base ho0) hb); have n1_ := Aside0.mk (Kd.R_lower (Kd.R_new' ho0 (Kd.R_lt (by (with_reducible repeat (first | apply Kd.R_alloc | apply Kd.R_drewN | apply Kd.R_drew)); exact HO_8.out))) (below_size (by repeat (first | (with_reducible first | exact HB.out | apply below_alloc | apply pw_below_drewN | apply below_drew1) | exact HB.out)))); have n2_ := Aside0.mk (below_step (by repeat (first | (with_reducible first | exact HB.out | apply below_alloc | apply pw_below_drewN | apply below_drew1) | exact HB.out)) hb); clear HO_8; clear HB; have HO_8 := n0_; have HO517 := n1_; have HB := n2_; clear n0_ n1_ n2_; (try clear hb); (try clear hb2); (try clear hk); (try clear hi); (try clear ho0)) | ((with_reducible refine gate_callee (f := 11) rfl ?_); refine goesL_ (some 78) rfl rfl Try.func11 (by kernel_rfl) rfl #[.slice A0 l0.length c0, .slice Ao13 x8_1.length co13] rfl (by (try simp only [List.map_toArray, List.map_cons, List.map_nil]); first | done | rfl | (simp only [List.length_drop, List.length_take]; rfl)) ?_; (with_reducible refine (flow_Bounds.calls _ _ l0 _ _ x8_1 t518 t519 _ ?side1 ?side2 ?side3 ?side4 A36.out).mono ?_); (case side1 => repeat (first | exact (Kd.C_below HR0.out HB.out) | (with_reducible refine Kd.C_alloc ?_ _) | (with_reducible refine Kd.C_drewN ?_ _) | (with_reducible refine Kd.C_drew ?_))); (case side2 => exact HC0.out); (case side3 => repeat (first | exact (Kd.R_reads' HO_8.out).2.2 | (with_reducible refine Kd.C_alloc ?_ _) | (with_reducible refine Kd.C_drewN ?_ _) | (with_reducible refine Kd.C_drew ?_))); (case side4 => exact (Kd.R_reads' HO_8.out).2.1); rintro e w73 ⟨v520, rfl, ho0, hb⟩; refine ⟨_, rfl, ?_⟩; have n0_ := Aside0.mk (Kd.R_elder' (by (with_reducible repeat (first | apply Kd.R_alloc | apply Kd.R_drewN | apply Kd.R_drew)); exact HO_8.out) (Kd.R_base ho0) hb); have n1_ := Aside0.mk (Kd.R_elder' (by (with_reducible repeat (first | apply Kd.R_alloc | apply Kd.R_drewN | apply Kd.R_drew)); exact HO517.out) (Kd.R_base ho0) hb); have n2_ := Aside0.mk (Kd.R_lower (Kd.R_new' (Kd.R_new' ho0 (Kd.R_lt (by (with_reducible repeat (first | apply Kd.R_alloc | apply Kd.R_drewN | apply Kd.R_drew)); exact HO_8.out))) (Kd.R_lt (by (with_reducible repeat (first | apply Kd.R_alloc | apply Kd.R_drewN | apply Kd.R_drew)); exact HO517.out))) (below_size (by repeat (first | (with_reducible first | exact HB.out | apply below_alloc | apply pw_below_drewN | apply below_drew1) | exact HB.out)))); have n3_ := Aside0.mk (below_step (by repeat (first | (with_reducible first | exact HB.out | apply below_alloc | apply pw_below_drewN | apply below_drew1) | exact HB.out)) hb); clear HO_8; clear HO517; clear HB; have HO_8 := n0_; have HO517 := n1_; have HO521 := n2_; have HB := n3_; clear n0_ n1_ n2_ n3_; (try clear hb); (try clear hb2); (try clear hk); (try clear hi); (try clear ho0)))
         go_ret
         exact ⟨by first | rfl | (simp [errW_none, errW_some] <;> rfl) | (simp [*, errW_none, errW_some] <;> rfl), by repeat (first | (with_reducible first | exact HB.out | apply below_alloc | apply pw_below_drewN | apply below_drew1) | exact HB.out)⟩
       ·replace c68 := Bool.eq_false_iff.mpr c68
        subst c68
        have H1 : (some false) = some r := by rw [if_neg (show ¬ (false = true) by decide)] at H; exact H
        clear H
        have H := H1
        clear H1
        obtain rfl := Option.some.inj H
        go_wp2_with (first | ((with_reducible refine gate_callee (f := 11) rfl ?_); refine goesL_ (some 72) rfl rfl Try.func11 (by kernel_rfl) rfl #[.slice A0 l0.length c0, .slice A1 l1.length c1] rfl (by (try simp only [List.map_toArray, List.map_cons, List.map_nil]); first | done | rfl | (simp only [List.length_drop, List.length_take]; rfl)) ?_; (with_reducible refine (flow_Bounds.calls _ _ l0 _ _ l1 t514 t515 _ ?side1 ?side2 ?side3 ?side4 A35.out).mono ?_); (case side1 => repeat (first | exact (Kd.C_below HR0.out HB.out) | (with_reducible refine Kd.C_alloc ?_ _) | (with_reducible refine Kd.C_drewN ?_ _) | (with_reducible refine Kd.C_drew ?_))); (case side2 => exact HC0.out); (case side3 => repeat (first | exact (Kd.C_below HR1.out HB.out) | (with_reducible refine Kd.C_alloc ?_ _) | (with_reducible refine Kd.C_drewN ?_ _) | (with_reducible refine Kd.C_drew ?_))); (case side4 => exact HC1.out); rintro e w74 ⟨v516, rfl, ho0, hb⟩; refine ⟨_, rfl, ?_⟩; have n0_ := Aside0.mk (Kd.R_elder' (by (with_reducible repeat (first | apply Kd.R_alloc | apply Kd.R_drewN | apply Kd.R_drew)); exact HO_8.out) (Kd.R_base ho0) hb); have n1_ := Aside0.mk (Kd.R_lower (Kd.R_new' ho0 (Kd.R_lt (by (with_reducible repeat (first | apply Kd.R_alloc | apply Kd.R_drewN | apply Kd.R_drew)); exact HO_8.out))) (below_size (by repeat (first | (with_reducible first | exact HB.out | apply below_alloc | apply pw_below_drewN | apply below_drew1) | exact HB.out)))); have n2_ := Aside0.mk (below_step (by repeat (first | (with_reducible first | exact HB.out | apply below_alloc | apply pw_below_drewN | apply below_drew1) | exact HB.out)) hb); clear HO_8; clear HB; have HO_8 := n0_; have HO517 := n1_; have HB := n2_; clear n0_ n1_ n2_; (try clear hb); (try clear hb2); (try clear hk); (try clear hi); (try clear ho0)) | ((with_reducible refine gate_callee (f := 11) rfl ?_); refine goesL_ (some 78) rfl rfl Try.func11 (by kernel_rfl) rfl #[.slice A0 l0.length c0, .slice Ao13 x8_1.length co13] rfl (by (try simp only [List.map_toArray, List.map_cons, List.map_nil]); first | done | rfl | (simp only [List.length_drop, List.length_take]; rfl)) ?_; (with_reducible refine (flow_Bounds.calls _ _ l0 _ _ x8_1 t518 t519 _ ?side1 ?side2 ?side3 ?side4 A36.out).mono ?_); (case side1 => repeat (first | exact (Kd.C_below HR0.out HB.out) | (with_reducible refine Kd.C_alloc ?_ _) | (with_reducible refine Kd.C_drewN ?_ _) | (with_reducible refine Kd.C_drew ?_))); (case side2 => exact HC0.out); (case side3 => repeat (first | exact (Kd.R_reads' HO_8.out).2.2 | (with_reducible refine Kd.C_alloc ?_ _) | (with_reducible refine Kd.C_drewN ?_ _) | (with_reducible refine Kd.C_drew ?_))); (case side4 => exact (Kd.R_reads' HO_8.out).2.1); rintro e w75 ⟨v520, rfl, ho0, hb⟩; refine ⟨_, rfl, ?_⟩; have n0_ := Aside0.mk (Kd.R_elder' (by (with_reducible repeat (first | apply Kd.R_alloc | apply Kd.R_drewN | apply Kd.R_drew)); exact HO_8.out) (Kd.R_base ho0) hb); have n1_ := Aside0.mk (Kd.R_elder' (by (with_reducible repeat (first | apply Kd.R_alloc | apply Kd.R_drewN | apply Kd.R_drew)); exact HO517.out) (Kd.R_base ho0) hb); have n2_ := Aside0.mk (Kd.R_lower (Kd.R_new' (Kd.R_new' ho0 (Kd.R_lt (by (with_reducible repeat (first | apply Kd.R_alloc | apply Kd.R_drewN | apply Kd.R_drew)); exact HO_8.out))) (Kd.R_lt (by (with_reducible repeat (first | apply Kd.R_alloc | apply Kd.R_drewN | apply Kd.R_drew)); exact HO517.out))) (below_size (by repeat (first | (with_reducible first | exact HB.out | apply below_alloc | apply pw_below_drewN | apply below_drew1) | exact HB.out)))); have n3_ := Aside0.mk (below_step (by repeat (first | (with_reducible first | exact HB.out | apply below_alloc | apply pw_below_drewN | apply below_drew1) | exact HB.out)) hb); clear HO_8; clear HO517; clear HB; have HO_8 := n0_; have HO517 := n1_; have HO521 := n2_; have HB := n3_; clear n0_ n1_ n2_ n3_; (try clear hb); (try clear hb2); (try clear hk); (try clear hi); (try clear ho0)))
        go_ret
        exact ⟨by first | rfl | (simp [errW_none, errW_some] <;> rfl) | (simp [*, errW_none, errW_some] <;> rfl), by repeat (first | (with_reducible first | exact HB.out | apply below_alloc | apply pw_below_drewN | apply below_drew1) | exact HB.out)⟩
  ·rw [if_neg c7] at H
   exact absurd H (by simp)
 ·replace c6 := Bool.eq_false_iff.mpr c6
  subst c6
  have H1 : (some t500) = some r := by rw [if_neg (show ¬ (false = true) by decide)] at H; exact H
  clear H
  have H := H1
  clear H1
  obtain rfl := Option.some.inj H
  go_enter Try.func6, Try.ntmps6
  go_wp2_with (first | ((with_reducible refine gate_callee (f := 10) rfl ?_); refine goesL_ (some 18) rfl rfl Try.func10 (by kernel_rfl) rfl #[] rfl (by (try simp only [List.map_toArray, List.map_cons, List.map_nil]); first | done | rfl | (simp only [List.length_drop, List.length_take]; rfl)) ?_; (with_reducible refine (cohousinglaw28_head.calls k  t500 _ A4.out).mono ?_); rintro e w76 ⟨rfl, hb⟩; refine ⟨_, rfl, ?_⟩; have n0_ := Aside0.mk (below_step (by repeat (first | (with_reducible first | exact HB.out | apply below_alloc | apply pw_below_drewN | apply below_drew1) | exact HB.out)) hb); clear HB; have HB := n0_; clear n0_; (try clear hb); (try clear hb2); (try clear hk); (try clear hi)) | ((with_reducible refine gate_callee (f := 21) rfl ?_); refine goesL_ (some 21) rfl rfl Try.func21 (by kernel_rfl) rfl #[.slice A0 l0.length c0, .slice A1 l1.length c1] rfl (by (try simp only [List.map_toArray, List.map_cons, List.map_nil]); first | done | rfl | (simp only [List.length_drop, List.length_take]; rfl)) ?_; (with_reducible refine (cohousinglaw28_right.calls _ _ l0 _ _ l1 false _ ?side1 ?side2 ?side3 ?side4 A5.out).mono ?_); (case side1 => repeat (first | exact (Kd.C_below HR0.out HB.out) | (with_reducible refine Kd.C_alloc ?_ _) | (with_reducible refine Kd.C_drewN ?_ _) | (with_reducible refine Kd.C_drew ?_))); (case side2 => exact HC0.out); (case side3 => repeat (first | exact (Kd.C_below HR1.out HB.out) | (with_reducible refine Kd.C_alloc ?_ _) | (with_reducible refine Kd.C_drewN ?_ _) | (with_reducible refine Kd.C_drew ?_))); (case side4 => exact HC1.out); rintro e w77 ⟨rfl, hb⟩; refine ⟨_, rfl, ?_⟩; have n0_ := Aside0.mk (below_step (by repeat (first | (with_reducible first | exact HB.out | apply below_alloc | apply pw_below_drewN | apply below_drew1) | exact HB.out)) hb); clear HB; have HB := n0_; clear n0_; (try clear hb); (try clear hb2); (try clear hk); (try clear hi)))
  go_ret
  exact ⟨by first | rfl | (simp [errW_none, errW_some] <;> rfl) | (simp [*, errW_none, errW_some] <;> rfl), by repeat (first | (with_reducible first | exact HB.out | apply below_alloc | apply pw_below_drewN | apply below_drew1) | exact HB.out)⟩
end Go.Proofs.Ytmojlpafpeeelaa.P
end
section
namespace Go.Proofs.Ytmojlpafpeeelaa.P
open Go.RowKit Go.Proofs.YtmojlpafpeeelaaW.PrintWords Go.Proofs.YtmojlpafpeeelaaW.PrintLast Go.Proofs.YtmojlpafpeeelaaW.PrintMore
attribute [local go_sem] max2_int min2_int max_two min_two max_three min_three max_four min_four
set_option linter.unusedVariables false
set_option linter.unusedSimpArgs false
mutual
def cohousinglaw28_FlowMatchesReference.j0 : Nat → List (S44) → List (S39) → List Int → Int → Int → Bool → Bool → Option (Bool)
 | 0, _, _, _, _, _, _, _ => none
 | k + 1, x0, x1, x2, x3, x4, x11, x28 => if x28 = true then (some x11) else ((flow_Bounds.f x0 x1).bind fun bt312 => ((cohousingref28_Bounds.f k x0 x1).bind fun bt316 => (if x11 = true then ((flow_Valid.f x0).bind fun t320 => ((cohousingref28_Valid.f k x0).bind fun t321 => (if (t320 == t321) = true then ((cohousingref28_Same.f k bt312.1 bt316.1).bind fun t322 => (if t322 = true then (cohousinglaw28_FlowMatchesReference.j1 k x0 x1 x2 x3 x4 (bt312.2 == bt316.2)) else (cohousinglaw28_FlowMatchesReference.j1 k x0 x1 x2 x3 x4 false))) else (cohousinglaw28_FlowMatchesReference.j1 k x0 x1 x2 x3 x4 false)))) else (cohousinglaw28_FlowMatchesReference.j1 k x0 x1 x2 x3 x4 false))))
def cohousinglaw28_FlowMatchesReference.j1 : Nat → List (S44) → List (S39) → List Int → Int → Int → Bool → Option (Bool)
 | 0, _, _, _, _, _, _ => none
 | k + 1, x0, x1, x2, x3, x4, x11 => (flow_Consistent.f x0 x1 x2).bind fun bt323 => ((cohousingref28_Consistent.f k x0 x1 x2).bind fun bt325 => (if x11 = true then (if (bt323.1 == bt325.1) = true then ((flow_State.f x0 x1 x3 x4).bind fun bt327 => ((cohousingref28_State.f k x0 x1 x3 x4).bind fun bt331 => (if bt323.2 = bt325.2 then ((cohousingref02_Same.f k bt327.1 bt331.1).bind fun t335 => (if t335 = true then (some (bt327.2 == bt331.2)) else (some false))) else (some false)))) else ((flow_State.f x0 x1 x3 x4).bind fun bt336 => ((cohousingref28_State.f k x0 x1 x3 x4).bind fun bt340 => (some false)))) else ((flow_State.f x0 x1 x3 x4).bind fun bt344 => ((cohousingref28_State.f k x0 x1 x3 x4).bind fun bt348 => (some false)))))
end
end Go.Proofs.Ytmojlpafpeeelaa.P
end
section
namespace Go.Proofs.Ytmojlpafpeeelaa.P
open Go.RowKit Go.Proofs.YtmojlpafpeeelaaW.PrintWords Go.Proofs.YtmojlpafpeeelaaW.PrintLast Go.Proofs.YtmojlpafpeeelaaW.PrintMore Go.Proofs.YtmojlpafpeeelaaH Go.Proofs.FlowTree
open Classical
theorem Ev.of_mono {α : Type} {f : Nat → Option α} {r : α} (k0 : Nat) (h0 : f k0 = some r) (h : ∀ k, LeO (f k) (f (k + 1))) : Ev f r := by
 refine ⟨k0, fun k hk => ?_⟩
 obtain ⟨d, rfl⟩ : ∃ d, k = k0 + d := ⟨k - k0, by omega⟩
 induction d with
 | zero => exact h0
 | succ d ih => exact h _ _ (ih (by omega))
theorem head_ev : Ev (fun k => cohousinglaw28_head.f k) true := Ev.of_mono 40 (by kernel_rfl) (fun k => cohousinglaw28_head.mono k)
theorem B_f (l : List PI) (r : List RG) (x : List Int) (hl : l.length ≤ 5864062014805) (hr : r.length ≤ 140737488355328) (hx : x.length ≤ 17592186044416) : flow_Bounds.f l r = some (boundsR l r) := by unfold flow_Bounds.f; rw [if_pos ⟨hl, hr⟩]
theorem V_f (l : List PI) (r : List RG) (x : List Int) (hl : l.length ≤ 5864062014805) (hr : r.length ≤ 140737488355328) (hx : x.length ≤ 17592186044416) : flow_Valid.f l = some (decide (okL l ∧ l.length ≤ 200)) := by unfold flow_Valid.f; rw [if_pos hl, valid_iff]
section
variable (l : List PI) (r : List RG) (x : List Int) (hl : l.length ≤ 5864062014805) (hr : r.length ≤ 140737488355328) (hx : x.length ≤ 17592186044416)
include hl hr hx
end
end Go.Proofs.Ytmojlpafpeeelaa.P
end
section
namespace Go.Proofs.Ytmojlpafpeeelaa.P
open Go.RowKit Go.Proofs.YtmojlpafpeeelaaW.PrintWords Go.Proofs.YtmojlpafpeeelaaW.PrintLast Go.Proofs.YtmojlpafpeeelaaW.PrintMore
attribute [local go_sem] max2_int min2_int max_two min_two max_three min_three max_four min_four
set_option linter.unusedVariables false
set_option linter.unusedSimpArgs false
mutual
def cohousinglaw28_FlowWithin.j0 : Nat → List (S44) → List (S39) → List Int → Bool → Bool → Option (Bool)
 | 0, _, _, _, _, _ => none
 | k + 1, x0, x1, x2, x7, x21 => if x21 = true then (some x7) else ((flow_Bounds.f x0 x1).bind fun bt386 => (if bt386.2 = 0 then (if (bt386.1.length : Int) = (x2.length : Int) then (cohousinglaw28_FlowWithin.j1 k x1 x2 x7 bt386.1 ((x1.length : Int) != (x2.length : Int))) else (cohousinglaw28_FlowWithin.j1 k x1 x2 x7 bt386.1 true)) else (cohousinglaw28_FlowWithin.j1 k x1 x2 x7 bt386.1 true)))
def cohousinglaw28_FlowWithin.j1 : Nat → List (S39) → List Int → Bool → List (S39) → Bool → Option (Bool)
 | 0, _, _, _, _, _ => none
 | k + 1, x1, x2, x7, x8, x44 => if x44 = true then (some false) else (cohousinglaw28_FlowWithin.l0 k x1 x2 x7 x8 (x2.length : Int) 0)
def cohousinglaw28_FlowWithin.l0 : Nat → List (S39) → List Int → Bool → List (S39) → Int → Int → Option (Bool)
 | 0, _, _, _, _, _, _ => none
 | k + 1, x1, x2, x7, x8, x46, x47 => if x47 < x46 then (if x7 = true then (if 0 ≤ x47 then (if x47 < (x8.length : Int) then (if x47 < (x2.length : Int) then (if ((rd_T39 x8 x47).f0) ≤ (rd x2 x47) then (if (rd x2 x47) ≤ ((rd_T39 x8 x47).f1) then (if x47 < (x1.length : Int) then (if ((rd_T39 x1 x47).f0) ≤ ((rd_T39 x8 x47).f0) then (cohousinglaw28_FlowWithin.l0 k x1 x2 (decide (((rd_T39 x8 x47).f1) ≤ ((rd_T39 x1 x47).f1))) x8 x46 (wrap64 (x47 + 1))) else (cohousinglaw28_FlowWithin.l0 k x1 x2 false x8 x46 (wrap64 (x47 + 1)))) else (none)) else (cohousinglaw28_FlowWithin.l0 k x1 x2 false x8 x46 (wrap64 (x47 + 1)))) else (cohousinglaw28_FlowWithin.l0 k x1 x2 false x8 x46 (wrap64 (x47 + 1)))) else (none)) else (none)) else (none)) else (cohousinglaw28_FlowWithin.l0 k x1 x2 false x8 x46 (wrap64 (x47 + 1)))) else (some x7)
end
end Go.Proofs.Ytmojlpafpeeelaa.P
end
section
namespace Go.Proofs.Ytmojlpafpeeelaa.P
open Go.RowKit Go.Proofs.YtmojlpafpeeelaaW.PrintWords Go.Proofs.YtmojlpafpeeelaaW.PrintLast Go.Proofs.YtmojlpafpeeelaaW.PrintMore
attribute [local go_sem] max2_int min2_int max_two min_two max_three min_three max_four min_four
set_option linter.unusedVariables false
set_option linter.unusedSimpArgs false
mutual
def cohousinglaw28_FlowFirst.j0 : Nat → List (S44) → List (S39) → List Int → Int → Bool → Bool → Option (Bool)
 | 0, _, _, _, _, _, _ => none
 | k + 1, x0, x1, x2, x3, x9, x33 => if x33 = true then (some x9) else (if 0 ≤ x3 then (if x3 < (x2.length : Int) then ((flow_State.f x0 x1 x3 (rd x2 x3)).bind fun bt449 => (if bt449.2 = 0 then (cohousinglaw28_FlowFirst.j1 k x2 x9 bt449.1 ((bt449.1.length : Int) != (x2.length : Int))) else (cohousinglaw28_FlowFirst.j1 k x2 x9 bt449.1 true))) else (none)) else (none))
def cohousinglaw28_FlowFirst.j1 : Nat → List Int → Bool → List Int → Bool → Option (Bool)
 | 0, _, _, _, _ => none
 | k + 1, x2, x9, x10, x54 => if x54 = true then (some false) else (cohousinglaw28_FlowFirst.l0 k x2 x9 x10 (x2.length : Int) 0)
def cohousinglaw28_FlowFirst.l0 : Nat → List Int → Bool → List Int → Int → Int → Option (Bool)
 | 0, _, _, _, _, _ => none
 | k + 1, x2, x9, x10, x56, x57 => if x57 < x56 then (if 0 ≤ x57 then (if x57 < (x2.length : Int) then (if x57 < (x10.length : Int) then (if (rd x2 x57) = (rd x10 x57) then (cohousinglaw28_FlowFirst.l0 k x2 x9 x10 x56 (wrap64 (x57 + 1))) else (if x9 = true then (some (decide ((rd x10 x57) < (rd x2 x57)))) else (some false))) else (none)) else (none)) else (none)) else (some x9)
end
end Go.Proofs.Ytmojlpafpeeelaa.P
end
section
namespace Go.Proofs.Ytmojlpafpeeelaa.P
open Go.RowKit Go.Proofs.YtmojlpafpeeelaaW.PrintWords Go.Proofs.YtmojlpafpeeelaaW.PrintLast Go.Proofs.YtmojlpafpeeelaaW.PrintMore
attribute [local go_sem] max2_int min2_int max_two min_two max_three min_three max_four min_four
set_option linter.unusedVariables false
set_option linter.unusedSimpArgs false
mutual
def cohousinglaw28_FlowExact.j0 : Nat → List (S44) → List (S39) → Int → Int → Bool → Bool → Option (Bool)
 | 0, _, _, _, _, _, _ => none
 | k + 1, x0, x1, x2, x3, x9, x32 => if x32 = true then (some x9) else ((flow_Bounds.f x0 x1).bind fun bt358 => (if bt358.2 = 0 then (if (bt358.1.length : Int) = (x0.length : Int) then (if 0 ≤ x2 then (if x2 < (bt358.1.length : Int) then (cohousinglaw28_FlowExact.j1 k x0 x1 x2 x3 x9 bt358.1 (decide (((rd_T39 bt358.1 x2).f0) > ((rd_T39 bt358.1 x2).f1)))) else (none)) else (none)) else (cohousinglaw28_FlowExact.j1 k x0 x1 x2 x3 x9 bt358.1 true)) else ((flow_State.f x0 x1 x2 x3).bind fun bt362 => (if x9 = true then (if bt358.2 = 30 then (if bt362.2 = 30 then (some ((bt362.1.length : Int) == 0)) else (some false)) else (some false)) else (some false)))))
def cohousinglaw28_FlowExact.j1 : Nat → List (S44) → List (S39) → Int → Int → Bool → List (S39) → Bool → Option (Bool)
 | 0, _, _, _, _, _, _, _ => none
 | k + 1, x0, x1, x2, x3, x9, x10, x81 => if x81 = true then (some false) else (if 0 ≤ x2 then (if x2 < (x10.length : Int) then ((some (([x3, (rd_T39 x10 x2).f0, (rd_T39 x10 x2).f1, wrap64 (((rd_T39 x10 x2).f0) - 1), wrap64 (((rd_T39 x10 x2).f1) + 1)] : List Int) : List Int)).bind fun y372 => (cohousinglaw28_FlowExact.l0 k x0 x1 x2 x9 x10 y372 (y372.length : Int) 0)) else (none)) else (none))
def cohousinglaw28_FlowExact.l0 : Nat → List (S44) → List (S39) → Int → Bool → List (S39) → List Int → Int → Int → Option (Bool)
 | 0, _, _, _, _, _, _, _, _ => none
 | k + 1, x0, x1, x2, x9, x10, x105, x106, x107 => if x107 < x106 then (if 0 ≤ x107 then (if x107 < (x105.length : Int) then ((flow_State.f x0 x1 x2 (rd x105 x107)).bind fun bt376 => (if 0 ≤ x2 then (if x2 < (x10.length : Int) then (if (rd x105 x107) < ((rd_T39 x10 x2).f0) then (cohousinglaw28_FlowExact.j3 k x0 x1 x2 x9 x10 (rd x105 x107) bt376.1 bt376.2 x105 x106 x107 true) else (cohousinglaw28_FlowExact.j3 k x0 x1 x2 x9 x10 (rd x105 x107) bt376.1 bt376.2 x105 x106 x107 (decide ((rd x105 x107) > ((rd_T39 x10 x2).f1))))) else (none)) else (none))) else (none)) else (none)) else (some x9)
def cohousinglaw28_FlowExact.j3 : Nat → List (S44) → List (S39) → Int → Bool → List (S39) → Int → List Int → Int → List Int → Int → Int → Bool → Option (Bool)
 | 0, _, _, _, _, _, _, _, _, _, _, _, _ => none
 | k + 1, x0, x1, x2, x9, x10, x15, x16, x17, x105, x106, x107, x134 => if x134 = true then (if x9 = true then (if x17 = 30 then (cohousinglaw28_FlowExact.l0 k x0 x1 x2 ((x16.length : Int) == 0) x10 x105 x106 (wrap64 (x107 + 1))) else (cohousinglaw28_FlowExact.l0 k x0 x1 x2 false x10 x105 x106 (wrap64 (x107 + 1)))) else (cohousinglaw28_FlowExact.l0 k x0 x1 x2 false x10 x105 x106 (wrap64 (x107 + 1)))) else (if x17 = 0 then (if (x16.length : Int) = (x0.length : Int) then (if 0 ≤ x2 then (if x2 < (x16.length : Int) then (if (rd x16 x2) = x15 then ((cohousinglaw28_consistent.f x0 x1 x16).bind fun t383 => (if t383 = true then (cohousinglaw28_FlowExact.l0 k x0 x1 x2 x9 x10 x105 x106 (wrap64 (x107 + 1))) else (some false))) else (some false)) else (none)) else (none)) else (some false)) else (some false))
end
end Go.Proofs.Ytmojlpafpeeelaa.P
end
section
namespace Go.Proofs.Ytmojlpafpeeelaa.P
open Go.RowKit Go.Proofs.YtmojlpafpeeelaaW.PrintWords Go.Proofs.YtmojlpafpeeelaaW.PrintLast Go.Proofs.YtmojlpafpeeelaaW.PrintMore Go.Proofs.YtmojlpafpeeelaaH Go.Proofs.FlowTree
open Classical
section
variable (l : List PI) (r : List RG) (x : List Int) (hl : l.length ≤ 5864062014805) (hr : r.length ≤ 140737488355328) (hx : x.length ≤ 17592186044416)
theorem right_f (l : List PI) (r : List RG) (hl : l.length ≤ 5864062014805) (hr : r.length ≤ 140737488355328) : cohousinglaw28_right.f l r = some (decide (l.length ≤ 40 ∧ Good l r)) := by
 have hbel : cohousingref28_Belongs.f l r = some (belongsB l.length r) := by unfold cohousingref28_Belongs.f; rw [if_pos ⟨by omega, hr⟩]
 unfold cohousinglaw28_right.f
 rw [V_f l r [] hl hr (by simp), hbel]
 simp only [Option.bind_some]
 by_cases h40 : l.length ≤ 40
 ·have h1 : (l.length : Int) ≤ 40 := by omega
  simp only [h1, if_true]
  by_cases hv : okL l ∧ l.length ≤ 200
  ·rw [decide_eq_true hv]
   simp only [if_true]
   by_cases hb : belongsB l.length r = true
   ·rw [hb, decide_eq_true ⟨h40, (good_iff l r).2 ⟨hv, hb⟩⟩]
   ·rw [decide_eq_false (fun h => hb ((good_iff l r).1 h.2).2)]
    rw [Bool.not_eq_true] at hb
    rw [hb]
  ·rw [decide_eq_false hv, decide_eq_false (fun h => hv ((good_iff l r).1 h.2).1)]
   simp
 ·have h1 : ¬ (l.length : Int) ≤ 40 := by omega
  simp only [h1, if_false]
  rw [decide_eq_false (fun h => h40 h.1)]
theorem bounds_cons {l : List PI} {r : List RG} (hg : Good l r) (hs : ∃ x, Sol (netT l) (lo9 r) (hi9 r) x) : ∃ d, boundsR l r = (d.map toR, 0) ∧ Exact l (lo9 r) (hi9 r) d := by
 have h := boundsR_is l r
 generalize boundsR l r = q at h
 cases h with
 | arg h => exact absurd hg h
 | flow _ h => exact absurd hs h
 | ok d _ h => exact ⟨d, rfl, h⟩
end
end Go.Proofs.Ytmojlpafpeeelaa.P
end
section
namespace Go.Proofs.Ytmojlpafpeeelaa.P
open Go.RowKit Go.Proofs.YtmojlpafpeeelaaW.PrintWords Go.Proofs.YtmojlpafpeeelaaW.PrintLast Go.Proofs.YtmojlpafpeeelaaW.PrintMore Go.Proofs.YtmojlpafpeeelaaH Go.Proofs.FlowTree
open Classical
theorem rr_set (r : List RG) (i j : Nat) (y : RG) (hi : i < r.length) : rr (r.set i y) j = if i = j then y else rr r j := by
 simp only [rr, rd_T39, List.getD_eq_getElem?_getD, Int.toNat_natCast, List.getElem?_set]
 by_cases e : i = j
 ·subst e; simp [hi]
 ·simp [e]
structure Later (n : Nat) (r e : List RG) : Prop where
 len : e.length = n
 sub : ∀ j, j < n → lo9 r j ≤ lo9 e j ∧ lo9 e j ≤ hi9 e j ∧ hi9 e j ≤ hi9 r j
theorem Later.good {l : List PI} {r e : List RG} (hg : Good l r) (h : Later l.length r e) : Good l e := by
 refine ⟨hg.ok, hg.n, h.len, fun j hj => ?_⟩
 have h1 := hg.vol j hj
 have h2 := h.sub j hj
 omega
theorem Later.sol {l : List PI} {r e : List RG} (h : Later l.length r e) {x : Nat → Int} (hx : Sol (netT l) (lo9 e) (hi9 e) x) : Sol (netT l) (lo9 r) (hi9 r) x := by
 refine ⟨fun i hi => ?_, hx.2⟩
 have h1 := hx.1 i hi
 have h2 := h.sub i hi
 omega
theorem Later.set {n : Nat} {r e : List RG} (h : Later n r e) {i : Nat} (hi : i < n) {a b : Int} (h1 : lo9 e i ≤ a) (h2 : a ≤ b) (h3 : b ≤ hi9 e i) : Later n r (e.set i ⟨a, b⟩) := by
 refine ⟨by rw [List.length_set, h.len], fun j hj => ?_⟩
 have hs := h.sub j hj
 have e1 : rr (e.set i ⟨a, b⟩) j = if i = j then ⟨a, b⟩ else rr e j := rr_set e i j _ (by rw [h.len]; exact hi)
 by_cases c : i = j
 ·subst c
  rw [if_pos rfl] at e1
  simp only [lo9, hi9, e1] at *
  omega
 ·rw [if_neg c] at e1
  simp only [lo9, hi9, e1] at *
  omega
theorem exact_sol {l : List PI} {lo hi : Nat → Int} {d : List IV} (h : Exact l lo hi d) : ∃ x, Sol (netT l) lo hi x := by
 by_cases h0 : l.length = 0
 ·refine ⟨fun _ => 0, fun i hi => ?_, fun i hi => ?_⟩
  ·have : i < l.length := hi
   omega
  ·have : i < l.length := hi
   omega
 ·have r := h.rng 0 (by omega)
  obtain ⟨x, hx, _⟩ := h.had 0 (by omega) (Lo d 0) (by omega) (by omega)
  exact ⟨x, hx⟩
theorem exact_good {l : List PI} {r : List RG} (hg : Good l r) {d : List IV} (h : Exact l (lo9 r) (hi9 r) d) : Good l (d.map toR) := by
 refine ⟨hg.ok, hg.n, by rw [List.length_map, h.len], fun j hj => ?_⟩
 rw [lo_map, hi_map]
 have := h.rng j hj
 omega
theorem bounds_again {l : List PI} {r : List RG} (hg : Good l r) {d : List IV} (h : Exact l (lo9 r) (hi9 r) d) : boundsR l (d.map toR) = (d.map toR, 0) := by
 have ht := (exact_tight h).1
 have hg2 := exact_good hg h
 have hs : ∃ x, Sol (netT l) (lo9 (d.map toR)) (hi9 (d.map toR)) x := by rw [lo_map, hi_map]; exact exact_sol ht
 obtain ⟨d2, hb, hd2⟩ := bounds_cons hg2 hs
 rw [hb]
 have := exact_uniq hd2 (e := d.map toR) hg2.len (fun x hx j hj => hx.1 j hj) hg2.vol (fun j hj v h1 h2 => by
  rw [lo_map] at h1 ⊢
  rw [hi_map] at h2 ⊢
  exact ht.had j hj v h1 h2)
 rw [this]
theorem know_l1 {n : Nat} {a b : List IV} (hn : n ≤ 200) (ha : a.length = n) (hb : b.length = n) (h : ∀ j, j < n → Lo a j ≤ Lo b j ∧ Lo b j ≤ Hi b j ∧ Hi b j ≤ Hi a j) : ∀ d i : Nat, i + d = n →
  Ev (fun k => cohousinglaw28_FlowKnowledge.l1 k true (a.map toR) (b.map toR) (n : Int) (i : Int)) true := by
 intro d
 induction d with
 | zero =>
  intro i hi
  have h1 : ¬ ((i : Int) < (n : Int)) := by omega
  refine Ev.step ?_
  simp only [cohousinglaw28_FlowKnowledge.l1, h1, if_false]
  exact Ev.pure _
 | succ d ih =>
  intro i hi
  have h1 : ((i : Int) < (n : Int)) := by omega
  have h2 : (0 : Int) ≤ (i : Int) := by omega
  have h3 : ((i : Int) < ((a.map toR).length : Int)) := by rw [List.length_map, ha]; exact h1
  have h4 : ((i : Int) < ((b.map toR).length : Int)) := by rw [List.length_map, hb]; exact h1
  have e1 : (rd_T39 (a.map toR) (i : Int)).f0 = Lo a i := congrFun (lo_map a) i
  have e2 : (rd_T39 (a.map toR) (i : Int)).f1 = Hi a i := congrFun (hi_map a) i
  have e3 : (rd_T39 (b.map toR) (i : Int)).f0 = Lo b i := congrFun (lo_map b) i
  have e4 : (rd_T39 (b.map toR) (i : Int)).f1 = Hi b i := congrFun (hi_map b) i
  have hh := h i (by omega)
  have c1 : Lo a i ≤ Lo b i := hh.1
  have c2 : Lo b i ≤ Hi b i := hh.2.1
  have c3 : decide (Hi b i ≤ Hi a i) = true := decide_eq_true hh.2.2
  refine Ev.step ?_
  simp only [cohousinglaw28_FlowKnowledge.l1, h1, h2, h3, h4, e1, e2, e3, e4, c1, c2, c3, if_true, wrap_nat (show i ≤ 140737488355328 by omega)]
  exact ih (i + 1) (by omega)
theorem know_end {l : List PI} {r e m : List RG} (hg : Good l r) (h : Later l.length r e) : Ev (fun k => cohousinglaw28_FlowKnowledge.l0 k l r m true e (l.length : Int) (l.length : Int)) true := by
 have hn := hg.n
 have hge := h.good hg
 have h1 : ¬ ((l.length : Int) < (l.length : Int)) := by omega
 have fr := B_f l r [] (by omega) (by rw [hg.len]; omega) (by simp)
 have fe := B_f l e [] (by omega) (by rw [hge.len]; omega) (by simp)
 have ir := boundsR_is l r
 have ie := boundsR_is l e
 have n30 : ((30 : Int) = 0) = False := by simp
 refine Ev.step ?_
 generalize hqr : boundsR l r = qr at ir fr
 generalize hqe : boundsR l e = qe at ie fe
 cases ir with
 | arg hb => exact absurd hg hb
 | flow _ hno =>
  cases ie with
  | arg hb => exact absurd hge hb
  | ok d _ hd =>
   obtain ⟨x, hx⟩ := exact_sol hd
   exact absurd ⟨x, h.sol hx⟩ hno
  | flow _ _ =>
   simp only [cohousinglaw28_FlowKnowledge.l0, h1, if_false, fr, fe, Option.bind_some, n30, if_true, beq_self_eq_true]
   exact Ev.pure _
 | ok d _ hd =>
  have hgd := exact_good hg hd
  have fd := B_f l (d.map toR) [] (by omega) (by rw [hgd.len]; omega) (by simp)
  rw [bounds_again hg hd] at fd
  have sm := same_f (d.map toR) (d.map toR) (by rw [hgd.len]; omega)
  rw [decide_eq_true rfl] at sm
  have n1 : ((((d.map toR).length : Nat) : Int) = (l.length : Int)) = True := by rw [hgd.len]; simp
  cases ie with
  | arg hb => exact absurd hge hb
  | flow _ _ =>
   simp only [cohousinglaw28_FlowKnowledge.l0, h1, if_false, fr, fe, fd, Option.bind_some, if_true]
   refine Ev.bnd sm ?_
   refine Ev.step ?_
   simp only [cohousinglaw28_FlowKnowledge.j1, Bool.not_true, Bool.false_eq_true, if_false, n30, if_true, beq_self_eq_true]
   exact Ev.pure _
  | ok d2 _ hd2 =>
   have n2 : ((((d2.map toR).length : Nat) : Int) != (l.length : Int)) = false := by rw [List.length_map, hd2.len]; simp
   have n3 : (((d.map toR).length : Nat) : Int) = (l.length : Int) := by rw [hgd.len]
   simp only [cohousinglaw28_FlowKnowledge.l0, h1, if_false, fr, fe, fd, Option.bind_some, if_true]
   refine Ev.bnd sm ?_
   refine Ev.step ?_
   simp only [cohousinglaw28_FlowKnowledge.j1, Bool.not_true, Bool.false_eq_true, if_false, n1, if_true, n2]
   refine Ev.step ?_
   simp only [cohousinglaw28_FlowKnowledge.j2, Bool.false_eq_true, if_false, n3]
   refine know_l1 (n := l.length) hn hd.len hd2.len (fun j hj => ?_) l.length 0 (by omega)
   have r2 := hd2.rng j hj
   obtain ⟨x1, s1, e1⟩ := hd2.had j hj (Lo d2 j) (by omega) (by omega)
   obtain ⟨x2, s2, e2⟩ := hd2.had j hj (Hi d2 j) (by omega) (by omega)
   have g1 := hd.sol x1 (h.sol s1) j hj
   have g2 := hd.sol x2 (h.sol s2) j hj
   omega
theorem know_l0 {l : List PI} {r m : List RG} (hg : Good l r) : ∀ (d i : Nat) (e : List RG), i + d = l.length → Later l.length r e →
  Ev (fun k => cohousinglaw28_FlowKnowledge.l0 k l r m true e (l.length : Int) (i : Int)) true := by
 have hn := hg.n
 intro d
 induction d with
 | zero =>
  intro i e hi h
  rw [show i = l.length by omega]
  exact know_end hg h
 | succ d ih =>
  intro i e hi h
  have h1 : ((i : Int) < (l.length : Int)) := by omega
  have h2 : (0 : Int) ≤ (i : Int) := by omega
  have h3 : ((i : Int) < (e.length : Int)) := by rw [h.len]; exact h1
  have hw := wrap_nat (show i ≤ 140737488355328 by omega)
  have q1 : (rd_T39 e (i : Int)).f0 = lo9 e i := rfl
  have q2 : (rd_T39 e (i : Int)).f1 = hi9 e i := rfl
  have q3 : (rd_T39 m (i : Int)).f0 = lo9 m i := rfl
  have q4 : (rd_T39 m (i : Int)).f1 = hi9 m i := rfl
  refine Ev.step ?_
  by_cases c1 : (i : Int) < (m.length : Int)
  ·by_cases c2 : mx (lo9 e i) (lo9 m i) ≤ mn (hi9 e i) (hi9 m i)
   ·simp only [cohousinglaw28_FlowKnowledge.l0, h1, h2, h3, c1, c2, q1, q2, q3, q4, if_true, hw, Int.toNat_natCast]
    refine ih (i + 1) _ (by omega) (h.set (by omega) ?_ c2 ?_)
    ·rw [mx_max]; omega
    ·rw [mn_min]; omega
   ·simp only [cohousinglaw28_FlowKnowledge.l0, h1, h2, h3, c1, c2, q1, q2, q3, q4, if_true, if_false, hw]
    exact ih (i + 1) e (by omega) h
  ·simp only [cohousinglaw28_FlowKnowledge.l0, h1, c1, if_true, if_false, hw]
   exact ih (i + 1) e (by omega) h
theorem know_ (l : List PI) (r m : List RG) (hl : l.length ≤ 5864062014805) (hr : r.length ≤ 140737488355328) (_hm : m.length ≤ 140737488355328) : Ev (fun k => cohousinglaw28_FlowKnowledge.f k l r m) true := by
 unfold cohousinglaw28_FlowKnowledge.f
 refine Ev.bnd head_ev ?_
 simp only [right_f l r hl hr, Option.bind_some]
 by_cases hg : l.length ≤ 40 ∧ Good l r
 case neg =>
  rw [decide_eq_false hg]
  simp only [Bool.false_eq_true, if_false]
  exact Ev.pure _
 rw [decide_eq_true hg]
 have h1 : ([] : List RG).length + r.length < 8796093022208 := by have := hg.2.len; have := hg.1; simp only [List.length_nil]; omega
 have h2 : (r.length : Int) = (l.length : Int) := by rw [hg.2.len]
 simp only [if_true, h1, List.nil_append, h2]
 exact know_l0 hg.2 l.length 0 r (by omega) ⟨hg.2.len, fun j hj => by have := hg.2.vol j hj; omega⟩
end Go.Proofs.Ytmojlpafpeeelaa.P
end
