/- Part 1 of the proof of FlowSubmeters: what it alone needs. -/
import Derived.Test.YtmojlpafpeeelaaCBd
set_option linter.unusedVariables false
set_option linter.unusedSimpArgs false
section
namespace Go.Proofs.Ytmojlpafpeeelaa.P
open Go.RowKit Go.Proofs.YtmojlpafpeeelaaW.PrintWords Go.Proofs.YtmojlpafpeeelaaW.PrintLast Go.Proofs.YtmojlpafpeeelaaW.PrintMore
attribute [local go_sem] max2_int min2_int max_two min_two max_three min_three max_four min_four
set_option linter.unusedVariables false
set_option linter.unusedSimpArgs false
mutual
def cohousinglaw28_FlowSubmeters.l0 : Nat → List Int → Bool → List (S44) → Int → Int → Option (Bool)
 | 0, _, _, _, _, _ => none
 | k + 1, x1, x5, x6, x24, x25 => if x25 < x24 then (if 0 ≤ x25 then (if x25 < (x6.length : Int) then (cohousinglaw28_FlowSubmeters.l0 k x1 x5 (x6.set (x25 : Int).toNat (⟨(rd_T44 x6 x25).f0, (rd_T44 x6 x25).f1, 0⟩ : S44)) x24 (wrap64 (x25 + 1))) else (none)) else (none)) else (if (x6.length : Int) > 40 then (cohousinglaw28_FlowSubmeters.j1 k x1 x5 x6 true) else (if (x1.length : Int) < (x6.length : Int) then (cohousinglaw28_FlowSubmeters.j1 k x1 x5 x6 true) else ((flow_Valid.f x6).bind fun t468 => (cohousinglaw28_FlowSubmeters.j1 k x1 x5 x6 (!t468)))))
def cohousinglaw28_FlowSubmeters.j1 : Nat → List Int → Bool → List (S44) → Bool → Option (Bool)
 | 0, _, _, _, _ => none
 | k + 1, x1, x5, x6, x47 => if x47 = true then (some x5) else (if 0 ≤ (x6.length : Int) then (if ((x6.length : Int) : Int).toNat ≤ 35184372088832 then (cohousinglaw28_FlowSubmeters.l1 k x1 x5 x6 (List.replicate ((x6.length : Int) : Int).toNat 0) ([] : List (S39)) (x6.length : Int) 0) else (none)) else (none))
def cohousinglaw28_FlowSubmeters.l1 : Nat → List Int → Bool → List (S44) → List Int → List (S39) → Int → Int → Option (Bool)
 | 0, _, _, _, _, _, _, _ => none
 | k + 1, x1, x5, x6, x8, x9, x53, x54 => if x54 < x53 then ((cohousingref28_Leaf.f k x6 x54).bind fun t473 => (if t473 = true then (if 0 ≤ x54 then (if x54 < (x1.length : Int) then (if (Int.tmod (rd x1 x54) 1000000001) < 0 then (if x54 < (x8.length : Int) then (if x9.length < 8796093022208 then (cohousinglaw28_FlowSubmeters.l1 k x1 x5 x6 (x8.set (x54 : Int).toNat (wrap64 (-(Int.tmod (rd x1 x54) 1000000001)))) (x9 ++ [(⟨wrap64 (-(Int.tmod (rd x1 x54) 1000000001)), wrap64 (-(Int.tmod (rd x1 x54) 1000000001))⟩ : S39)]) x53 (wrap64 (x54 + 1))) else (none)) else (none)) else (if x54 < (x8.length : Int) then (if x9.length < 8796093022208 then (cohousinglaw28_FlowSubmeters.l1 k x1 x5 x6 (x8.set (x54 : Int).toNat (Int.tmod (rd x1 x54) 1000000001)) (x9 ++ [(⟨Int.tmod (rd x1 x54) 1000000001, Int.tmod (rd x1 x54) 1000000001⟩ : S39)]) x53 (wrap64 (x54 + 1))) else (none)) else (none))) else (none)) else (none)) else (if x9.length < 8796093022208 then (cohousinglaw28_FlowSubmeters.l1 k x1 x5 x6 x8 (x9 ++ [(⟨0, 1000000000⟩ : S39)]) x53 (wrap64 (x54 + 1))) else (none)))) else (cohousinglaw28_FlowSubmeters.l2 k x5 x6 x8 x9 0 (wrap64 ((x6.length : Int) - 1)))
def cohousinglaw28_FlowSubmeters.l2 : Nat → Bool → List (S44) → List Int → List (S39) → Int → Int → Option (Bool)
 | 0, _, _, _, _, _, _ => none
 | k + 1, x5, x6, x8, x9, x13, x14 => if x14 ≥ 0 then (if 0 ≤ x14 then (if x14 < (x8.length : Int) then (cohousinglaw28_FlowSubmeters.l3 k x5 x6 x8 x9 (mx x13 (rd x8 x14)) x14 x14 0) else (none)) else (none)) else ((flow_Bounds.f x6 x9).bind fun bt492 => (if x13 > 1000000000 then (if x5 = true then (some (bt492.2 == 30)) else (some false)) else (if bt492.2 = 0 then (cohousinglaw28_FlowSubmeters.j5 k x5 x8 bt492.1 ((bt492.1.length : Int) != (x6.length : Int))) else (cohousinglaw28_FlowSubmeters.j5 k x5 x8 bt492.1 true))))
def cohousinglaw28_FlowSubmeters.l3 : Nat → Bool → List (S44) → List Int → List (S39) → Int → Int → Int → Int → Option (Bool)
 | 0, _, _, _, _, _, _, _, _ => none
 | k + 1, x5, x6, x8, x9, x13, x14, x95, x96 => if x96 < x95 then (if 0 ≤ x96 then (if x96 < (x6.length : Int) then (if 0 ≤ x14 then (if x14 < (x6.length : Int) then (if ((rd_T44 x6 x96).f0) = ((rd_T44 x6 x14).f1) then (if x96 < (x8.length : Int) then (if x14 < (x8.length : Int) then (cohousinglaw28_FlowSubmeters.l3 k x5 x6 (x8.set (x96 : Int).toNat (wrap64 ((rd x8 x96) + (rd x8 x14)))) x9 x13 x14 x95 (wrap64 (x96 + 1))) else (none)) else (none)) else (cohousinglaw28_FlowSubmeters.l3 k x5 x6 x8 x9 x13 x14 x95 (wrap64 (x96 + 1)))) else (none)) else (none)) else (none)) else (none)) else (cohousinglaw28_FlowSubmeters.l2 k x5 x6 x8 x9 x13 (wrap64 (x14 - 1)))
def cohousinglaw28_FlowSubmeters.j5 : Nat → Bool → List Int → List (S39) → Bool → Option (Bool)
 | 0, _, _, _, _ => none
 | k + 1, x5, x8, x16, x142 => if x142 = true then (some false) else (cohousinglaw28_FlowSubmeters.l4 k x5 x8 x16 (x16.length : Int) 0)
def cohousinglaw28_FlowSubmeters.l4 : Nat → Bool → List Int → List (S39) → Int → Int → Option (Bool)
 | 0, _, _, _, _, _ => none
 | k + 1, x5, x8, x16, x144, x145 => if x145 < x144 then (if x5 = true then (if 0 ≤ x145 then (if x145 < (x16.length : Int) then (if x145 < (x8.length : Int) then (if ((rd_T39 x16 x145).f0) = (rd x8 x145) then (cohousinglaw28_FlowSubmeters.l4 k (((rd_T39 x16 x145).f1) == (rd x8 x145)) x8 x16 x144 (wrap64 (x145 + 1))) else (cohousinglaw28_FlowSubmeters.l4 k false x8 x16 x144 (wrap64 (x145 + 1)))) else (none)) else (none)) else (none)) else (cohousinglaw28_FlowSubmeters.l4 k false x8 x16 x144 (wrap64 (x145 + 1)))) else (some x5)
end
def cohousinglaw28_FlowSubmeters.f (k : Nat) (l0 : List (S44)) (l1 : List Int) : Option (Bool) := (cohousinglaw28_head.f k).bind fun t460 => ((some (([] : List (S44)) : List (S44))).bind fun y461 => (if y461.length + l0.length < 5864062014805 then ((some (y461 ++ l0 : List (S44))).bind fun y464 => (cohousinglaw28_FlowSubmeters.l0 k l1 t460 y464 (y464.length : Int) 0)) else (none)))
def cohousinglaw28_FlowSubmeters.T31 : Bool × List (List Nat × List Nat) := (true, [([], []), ([], []), ([0, 1], [0, 1]), ([2], [2]), ([3], [3]), ([], []), ([], []), ([5, 6], [5, 6]), ([7], [7]), ([8], [8]), ([4, 9], [4, 9])])
def cohousinglaw28_FlowSubmeters.B31 : List Nat := [0, 0, 3, 7, 15, 0, 0, 96, 224, 480, 1023]
theorem cohousinglaw28_FlowSubmeters.tab31 : rtab .any (opsOf Try.f9 31) = cohousinglaw28_FlowSubmeters.T31 := by kernel_rfl
theorem cohousinglaw28_FlowSubmeters.bits31 : waitsOk cohousinglaw28_FlowSubmeters.T31.2 cohousinglaw28_FlowSubmeters.B31 = true := by kernel_rfl
def cohousinglaw28_FlowSubmeters.T32 : Bool × List (List Nat × List Nat) := (true, [([], []), ([], []), ([0, 1], [0, 1]), ([2], [2]), ([], []), ([], []), ([4, 5], [4, 5]), ([6], [6]), ([3, 7], [3, 7]), ([0, 1, 0, 1, 2, 3, 4, 5, 6, 7, 8], [0, 1]), ([9, 8, 0, 1, 2, 3, 4, 5, 6, 7, 8], [8, 9])])
def cohousinglaw28_FlowSubmeters.B32 : List Nat := [0, 0, 3, 7, 0, 0, 48, 112, 255, 511, 1023]
theorem cohousinglaw28_FlowSubmeters.tab32 : rtab .any (opsOf Try.f9 32) = cohousinglaw28_FlowSubmeters.T32 := by kernel_rfl
theorem cohousinglaw28_FlowSubmeters.bits32 : waitsOk cohousinglaw28_FlowSubmeters.T32.2 cohousinglaw28_FlowSubmeters.B32 = true := by kernel_rfl
def cohousinglaw28_FlowSubmeters.T42 : Bool × List (List Nat × List Nat) := (true, [([], []), ([0], [0]), ([1], [1]), ([1], [1]), ([2, 3, 1], [1, 2, 3]), ([4, 1], [1, 4]), ([5, 1], [1, 5]), ([1], [1]), ([1], [1]), ([7, 8, 1], [1, 7, 8]), ([9, 1], [1, 9]), ([6, 10, 1], [1, 6, 10]), ([1, 11], [1, 11]), ([12, 1], [12]), ([13], [13]), ([13], [13]), ([14, 15, 13], [13, 14, 15]), ([16, 13], [13, 16]), ([17, 13], [13, 17]), ([13], [13]), ([13], [13]), ([19, 20, 13], [13, 19, 20]), ([21, 13], [13, 21]), ([18, 22, 13], [13, 18, 22]), ([13, 23], [13, 23]), ([24, 13, 0, 1, 2, 3, 4, 5, 6, 7, 8, 9, 10, 11, 12, 13, 14, 15, 16, 17, 18, 19, 20, 21, 22, 23, 24], [0, 24])])
def cohousinglaw28_FlowSubmeters.B42 : List Nat := [0, 1, 3, 3, 15, 31, 63, 3, 3, 387, 899, 2047, 4095, 8191, 16383, 16383, 65535, 131071, 262143, 16383, 16383, 1589247, 3686399, 8388607, 16777215, 33554431]
theorem cohousinglaw28_FlowSubmeters.tab42 : rtab .any (opsOf Try.f9 42) = cohousinglaw28_FlowSubmeters.T42 := by kernel_rfl
theorem cohousinglaw28_FlowSubmeters.bits42 : waitsOk cohousinglaw28_FlowSubmeters.T42.2 cohousinglaw28_FlowSubmeters.B42 = true := by kernel_rfl
set_option maxHeartbeats 8000000 in
set_option maxRecDepth 100000 in
theorem cohousinglaw28_FlowSubmeters.calls (k : Nat) (A0 : Option Addr) (c0 : Nat) (l0 : List (S44)) (A1 : Option Addr) (c1 : Nat) (l1 : List Int) (r : Bool) (w : World) (hr0 : Kd.C k44 w A0 l0.length l0) (hc0 : l0.length ≤ c0) (hr1 : Kd.C (Kd.int .i64) w A1 l1.length l1) (hc1 : l1.length ≤ c1) (h : cohousinglaw28_FlowSubmeters.f k l0 l1 = some r) :
  Calls Try.prog 9 #[.slice A0 l0.length c0, .slice A1 l1.length c1] w fun e w' => e = .returned (.bool r) ∧ Below w.heap.size w w' := by
 have hu39 := Try.underlying39
 have HR0 := Aside0.mk hr0
 have HC0 := Aside0.mk hc0
 clear hr0 hc0
 have HR1 := Aside0.mk hr1
 have HC1 := Aside0.mk hc1
 clear hr1 hc1
 have HB := Aside0.mk (Below.refl w.heap.size w)
 have H : ((cohousinglaw28_head.f k).bind fun t460 => ((some (([] : List (S44)) : List (S44))).bind fun y461 => (if y461.length + l0.length < 5864062014805 then ((some (y461 ++ l0 : List (S44))).bind fun y464 => (cohousinglaw28_FlowSubmeters.l0 k l1 t460 y464 (y464.length : Int) 0)) else (none)))) = some r := h
 clear h
 replace H := Option.bind_eq_some_iff.mp H
 obtain ⟨t460, A30, H⟩ := H
 replace H : ((some (([] : List (S44)) : List (S44))).bind fun y461 => (if y461.length + l0.length < 5864062014805 then ((some (y461 ++ l0 : List (S44))).bind fun y464 => (cohousinglaw28_FlowSubmeters.l0 k l1 t460 y464 (y464.length : Int) 0)) else (none))) = some r := H
 have A3 := Aside0.mk A30
 clear A30
 obtain ⟨y461, hy461⟩ : ∃ y_ : List (S44), y_ = (([] : List (S44))) := ⟨_, rfl⟩
 replace H : (if y461.length + l0.length < 5864062014805 then ((some (y461 ++ l0 : List (S44))).bind fun y464 => (cohousinglaw28_FlowSubmeters.l0 k l1 t460 y464 (y464.length : Int) 0)) else (none)) = some r := by first | (rw [hy461]; with_reducible exact H) | (have H2_ := (Option.bind_some _ _).symm.trans H; rw [hy461]; with_reducible exact H2_) | (have H2_ := (Option.bind_some _ _).symm.trans H; with_reducible exact H2_) | with_reducible exact H | (rw [hy461]; exact H) | exact H
 have Ny461 := Aside0.mk hy461
 clear hy461
 by_cases c4 : y461.length + l0.length < 5864062014805
 ·rw [if_pos c4] at H
  have LMc4 := Aside0.mk c4
  clear c4
  obtain ⟨y464, hy464⟩ : ∃ y_ : List (S44), y_ = (y461 ++ l0) := ⟨_, rfl⟩
  replace H : (cohousinglaw28_FlowSubmeters.l0 k l1 t460 y464 (y464.length : Int) 0) = some r := by first | (rw [hy464]; with_reducible exact H) | (have H2_ := (Option.bind_some _ _).symm.trans H; rw [hy464]; with_reducible exact H2_) | (have H2_ := (Option.bind_some _ _).symm.trans H; with_reducible exact H2_) | with_reducible exact H | (rw [hy464]; exact H) | exact H
  have Ny464 := Aside0.mk hy464
  clear hy464
  have H' := Aside0.mk H
  clear H
  go_enter Try.func9, Try.ntmps9
  go_wp2_with (first | ((with_reducible refine gate_callee (f := 10) rfl ?_); refine goesL_ (some 19) rfl rfl Try.func10 (by kernel_rfl) rfl #[] rfl (by (try simp only [List.map_toArray, List.map_cons, List.map_nil]); first | done | rfl | (simp only [List.length_drop, List.length_take]; rfl)) ?_; (with_reducible refine (cohousinglaw28_head.calls k  t460 _ A3.out).mono ?_); rintro e w5 ⟨rfl, hb⟩; refine ⟨_, rfl, ?_⟩; have n0_ := Aside0.mk (below_step (by repeat (first | (with_reducible first | exact HB.out | apply below_alloc | apply pw_below_drewN | apply below_drew1) | exact HB.out)) hb); clear HB; have HB := n0_; clear n0_; (try clear hb); (try clear hb2); (try clear hk); (try clear hi)) | ((with_reducible refine gate_dst (N := 20) rfl ?_); (try (refine gate_guard (by rfl) ?_; dsimp only)); refine Kd.R_lit k44 _ 44 ?hg (N := 20) ?hd (xs := ([] : List (S44))) (inner := []) (ok := fun _ => True) (okp := fun _ => True) ?hr ?hp (fun _ hk => hk) trivial (Below.refl _ _) (Nat.le_refl _) (by simp) ?_; (case hd => rfl); (case hg => rfl); (case hr => first | (go_simp; done) | (go_simp; rfl)); (case hp => exact (Reps.none _ _)); intro v462 w6 ho7 hb hg_ hnew_; clear hg_ hnew_; (first | rw [← Ny461.out] at ho7 | (simp only [Int.reduceToNat] at ho7; rw [← Ny461.out] at ho7)); have n0_ := Aside0.mk (Kd.R_lower ho7 (below_size (by repeat (first | (with_reducible first | exact HB.out | apply below_alloc | apply pw_below_drewN | apply below_drew1) | exact HB.out)))); have n1_ := Aside0.mk (below_step (by repeat (first | (with_reducible first | exact HB.out | apply below_alloc | apply pw_below_drewN | apply below_drew1) | exact HB.out)) hb); clear HB; have HO463 := n0_; have HB := n1_; clear n0_ n1_; clear hb ho7) | ((with_reducible refine gate_builtin (b := .append) (xs := #[.tmp 20, .tmp 21]) rfl ?_); (try (refine gate_guard (by rfl) ?_; dsimp only)); at_builtin; refine Kd.R_append_rows k44 (w0 := w) w.heap.size rfl (.tmp 20) (.tmp 21) 22 44 (.agg #[(.int .i64 0), (.int .i64 0), (.int .i64 0)]) 24 rfl Try.underlying22 info44 rfl (by decide) (by omega) v462 y461 l0 _ _ _ (fun _ => True) (fun _ => False) rfl rfl ?aO ?aR (fun _ _ h => h) (fun _ h => h.elim) ?aF ?aB ?aS ?aL ?_; (case aR => repeat (first | exact (Kd.C_below HR0.out HB.out) | (with_reducible refine Kd.C_alloc ?_ _) | (with_reducible refine Kd.C_drewN ?_ _) | (with_reducible refine Kd.C_drew ?_))); (case aB => exact (by repeat (first | (with_reducible first | exact HB.out | apply below_alloc | apply pw_below_drewN | apply below_drew1) | exact HB.out))); (case aF => exact (fun _ _ => trivial)); (case aO => exact (by (with_reducible repeat (first | apply Kd.R_alloc | apply Kd.R_drewN | apply Kd.R_drew)); exact HO463.out)); (case aS => exact (below_size (by repeat (first | (with_reducible first | exact HB.out | apply below_alloc | apply pw_below_drewN | apply below_drew1) | exact HB.out)))); (case aL => have := LMc4.out; omega); intro v465 w8 ho hb hg hat; rw [← Ny464.out] at ho; have n0_ := Aside0.mk (hb); have n1_ := Aside0.mk (ho); clear HB; clear HO463; have HB := n0_; have HO466 := n1_; clear n0_ n1_; clear ho hb hg hat; obtain ⟨Ao9, co9, eo9⟩ := Kd.R_slice HO466.out; subst eo9))
  go_loopg [25] k (fun kq v25 w' => ∃ (x6_1 : List (S44)) (x25_1 : Int), v25 = .int .i64 x25_1 ∧ Aside0 (cohousinglaw28_FlowSubmeters.l0 kq l1 t460 x6_1 (y464.length : Int) x25_1 = some r) ∧ Aside0 (kq ≤ k) ∧ Aside0 (Kd.R k44 44 w' w.heap.size (fun _ => True) (.slice Ao9 y464.length co9) x6_1) ∧ Aside0 (Below w.heap.size w w'))
  case atStart => exact ⟨(y464), (0), (by first | rfl | (simp; done) | (simp [*]; done)), H', ⟨Nat.le_refl _⟩, ⟨by (with_reducible repeat (first | apply Kd.R_alloc | apply Kd.R_drewN | apply Kd.R_drew)); exact HO466.out⟩, ⟨by repeat (first | (with_reducible first | exact HB.out | apply below_alloc | apply pw_below_drewN | apply below_drew1) | exact HB.out)⟩⟩
  case round =>
   clear H'
   try clear c1
   try clear p2
   try clear c4
   try clear c9
   obtain ⟨x6_1, x25_1, rfl, HA, HK1, HO_6, HB⟩ := hrel
   have hl6_1 := (Kd.R_reads' HO_6.out).1
   rw [hl6_1] at HO_6
   (try simp only [hl6_1])
   cases gk with
   | zero => exact absurd HA.out (by simp [cohousinglaw28_FlowSubmeters.l0])
   | succ k1 =>
    have H := HA.out
    clear HA
    simp only [cohousinglaw28_FlowSubmeters.l0] at H
    by_cases c10 : x25_1 < (y464.length : Int)
    ·rw [if_pos c10] at H
     have c10b0 : decide (x25_1 < (y464.length : Int)) = true := decide_eq_true c10
     clear c10
     by_cases c11 : 0 ≤ x25_1
     ·rw [if_pos c11] at H
      have c11b0 : decide (0 ≤ x25_1) = true := decide_eq_true c11
      clear c11
      by_cases c12 : x25_1 < (x6_1.length : Int)
      ·rw [if_pos c12] at H
       have c12b0 : decide (x25_1 < (x6_1.length : Int)) = true := decide_eq_true c12
       clear c12
       obtain ⟨y467, hy467⟩ : ∃ y_ : List (S44), y_ = (x6_1.set (x25_1 : Int).toNat (⟨(rd_T44 x6_1 x25_1).f0, (rd_T44 x6_1 x25_1).f1, 0⟩ : S44)) := ⟨_, rfl⟩
       replace H : (cohousinglaw28_FlowSubmeters.l0 k1 l1 t460 y467 (y464.length : Int) (wrap64 (x25_1 + 1))) = some r := by first | (rw [hy467]; with_reducible exact H) | (have H2_ := (Option.bind_some _ _).symm.trans H; rw [hy467]; with_reducible exact H2_) | (have H2_ := (Option.bind_some _ _).symm.trans H; with_reducible exact H2_) | with_reducible exact H | (rw [hy467]; exact H) | exact H
       have Ny467 := Aside0.mk hy467
       clear hy467
       have H' := Aside0.mk H
       clear H
       have p13 : 0 ≤ (x25_1 : Int) := of_decide_eq_true (by first | (with_reducible assumption) | assumption)
       have q13 : (x25_1 : Int) < ((x6_1.length : Int) : Int) := of_decide_eq_true (by first | (with_reducible assumption) | assumption)
       obtain ⟨go13, co13, eo13, gb13, gl13, cl13, HG13⟩ := Kd.R_form HO_6.out (by omega)
       (first | cases eo13 | (injection eo13 with ea_ en_ ec_; (first | subst ea_ | (injection ea_ with ea_; subst ea_)); subst ec_; clear en_))
       have GB13 := Aside0.mk gb13
       have GG13 := Aside0.mk HG13
       clear gb13 gl13 HG13
       obtain ⟨ce13, hcl13, hM13, hcc13, hfr13⟩ := Kd.R_elem HO_6.out z44 (x25_1 : Int) p13 q13
       obtain rfl := k44_openM hM13
       have hx13_0 : wr.cell? ⟨go13, (x25_1 : Int).toNat * 3, none⟩ = some (.int .i64 ((rd_T44 x6_1 x25_1).f0)) := hcc13 0 _ rfl
       have hx13_1 : wr.cell? ⟨go13, (x25_1 : Int).toNat * 3 + 1, none⟩ = some (.int .i64 ((rd_T44 x6_1 x25_1).f1)) := hcc13 1 _ rfl
       have hx13_2 : wr.cell? ⟨go13, (x25_1 : Int).toNat * 3 + 2, none⟩ = some (.int .i64 ((rd_T44 x6_1 x25_1).f2)) := hcc13 2 _ rfl
       have hf13_0 : wr.frozen? ⟨go13, (x25_1 : Int).toNat * 3, none⟩ = false := hfr13 0
       have hf13_1 : wr.frozen? ⟨go13, (x25_1 : Int).toNat * 3 + 1, none⟩ = false := hfr13 1
       have hf13_2 : wr.frozen? ⟨go13, (x25_1 : Int).toNat * 3 + 2, none⟩ = false := hfr13 2
       clear hcl13 hcc13 hfr13 hM13
       replace p13 := eq_true p13
       replace q13 := eq_true q13
       have HX14 := Aside0.mk (show Kd.R k44 44 wr w.heap.size (fun _ => True) (.slice (some ⟨go13, 0, none⟩) x6_1.length co9) x6_1 from (by (with_reducible repeat (first | apply Kd.R_alloc | apply Kd.R_drewN | apply Kd.R_drew)); exact HO_6.out))
       obtain ⟨ce14, hcl14, hM14, hcc14, hfr14⟩ := Kd.R_elem HX14.out z44 (x25_1 : Int) (of_decide_eq_true (by first | (with_reducible assumption) | assumption)) (by have h_ : (x25_1 : Int) < ((x6_1.length : Int) : Int) := of_decide_eq_true (by first | (with_reducible assumption) | assumption); first | exact h_ | (have e_ := (Kd.R_reads' HO_6.out).1; omega) | simpa using h_)
       obtain rfl := k44_openM hM14
       have HP14 := Kd.R_seg HX14.out (x25_1 : Int) (of_decide_eq_true (by first | (with_reducible assumption) | assumption)) (by have h_ : (x25_1 : Int) < ((x6_1.length : Int) : Int) := of_decide_eq_true (by first | (with_reducible assumption) | assumption); first | exact h_ | (have e_ := (Kd.R_reads' HO_6.out).1; omega) | simpa using h_) (seg := [.int .i64 0]) (j := 2) hcl14 hcc14 (show 3 ≤ 3 from by decide) (x' := (⟨(rd_T44 x6_1 x25_1).f0, (rd_T44 x6_1 x25_1).f1, 0⟩ : S44)) (k44_mkM _ _ _ (⟨(rd_T44 x6_1 x25_1).f0, (rd_T44 x6_1 x25_1).f1, 0⟩ : S44) ) (fun _ hk => hk)
       have hx14_2 := hcc14 2 _ rfl
       (try simp only [show (k44).sz = 3 from rfl, Nat.mul_one, Nat.add_zero] at hx14_2)
       have hf14_2 := hfr14 2
       (try simp only [show (k44).sz = 3 from rfl, Nat.mul_one, Nat.add_zero] at hf14_2)
       clear hcl14 hcc14 hfr14 hM14
       go_wp2_with (first | ((with_reducible refine gate_store (t := 3) (p := 31) rfl ?_); refine store_event (t := 3) (p := 31) (v := ?vo_w15) (w1 := (wr.setCell ⟨go13, (x25_1 : Int).toNat * 3 + 2, none⟩ (.int .i64 0))) ?hg ?ho ?hn ?hr ?_; (case ho => rfl); (case hg => rfl); (case hn => rfl); (case hr => first | (go_simp; done) | (go_simp; rfl)); intro w15 hw; have hg : wr.grownBy w15 (some go13) := (by rw [hw]; exact HP14.2); have hp_ : Kd.R k44 44 w15 w.heap.size (fun _ => True) (.slice (some ⟨go13, 0, none⟩) x6_1.length co9) y467 := (by rw [hw, Ny467.out]; exact HP14.1); clear HP14; have n0_ := Aside0.mk (hp_); have n1_ := Aside0.mk ((by rw [hw]; exact below_set (HB.out) GB13.out : Below w.heap.size w w15)); clear HO_6; clear HB; have HO_6 := n0_; have HB := n1_; clear n0_ n1_; clear hg hw hp_))
       (try simp only [← hl6_1])
       go_roundg k1
       case measure => have := HK1.out; omega
       case rel => exact ⟨(y467), (wrap64 (x25_1 + 1)), (by first | rfl | (simp; done) | (simp [*]; done)), H', ⟨by have := HK1.out; omega⟩, ⟨by (try simp only [hl6_1]); (with_reducible repeat (first | apply Kd.R_alloc | apply Kd.R_drewN | apply Kd.R_drew)); exact HO_6.out⟩, ⟨by repeat (first | (with_reducible first | exact HB.out | apply below_alloc | apply pw_below_drewN | apply below_drew1) | exact HB.out)⟩⟩
      ·rw [if_neg c12] at H
       exact absurd H (by simp)
     ·rw [if_neg c11] at H
      exact absurd H (by simp)
    ·rw [if_neg c10] at H
     have c10b0 : decide (x25_1 < (y464.length : Int)) = false := decide_eq_false c10
     have c10b1 : decide (x25_1 < (x6_1.length : Int)) = false := decide_eq_false (by have := hl6_1; omega)
     clear c10
     have HC16 := Aside0.mk H
     clear H
     go_upto_region 8 with (fail)
     go_cut [47] (fun v47 wc => ∃ (kq : Nat) (x47_15 : Bool), v47 = .bool x47_15 ∧ Aside0 (cohousinglaw28_FlowSubmeters.j1 kq l1 t460 x6_1 x47_15 = some r) ∧ Aside0 (kq ≤ k1) ∧ Aside0 (Kd.R k44 44 wc w.heap.size (fun _ => True) (.slice Ao9 x6_1.length co9) x6_1) ∧ Aside0 (Below w.heap.size w wc))
     case first =>
      have H := HC16.out
      clear HC16
      by_cases c17 : (x6_1.length : Int) > 40
      ·rw [if_pos c17] at H
       have c17b0 : decide (40 < (x6_1.length : Int)) = true := decide_eq_true c17
       have c17b1 : decide (40 < x6_1.length) = true := decide_eq_true (by omega)
       clear c17
       (first | rw [c17b0] | (simp only [i64_w, i32_w]; rw [c17b0]) | skip)
       have H' := Aside0.mk H
       clear H
       go_wp2
       go_meet
       case rel => exact ⟨_, (true), (by first | rfl | (simp; done) | (simp [*]; done)), H', ⟨by have := HK1.out; first | omega | exact Nat.le_refl _⟩, ⟨by (try simp only [hl6_1]); (with_reducible repeat (first | apply Kd.R_alloc | apply Kd.R_drewN | apply Kd.R_drew)); exact HO_6.out⟩, ⟨by repeat (first | (with_reducible first | exact HB.out | apply below_alloc | apply pw_below_drewN | apply below_drew1) | exact HB.out)⟩⟩
      ·rw [if_neg c17] at H
       have c17b0 : decide (40 < (x6_1.length : Int)) = false := decide_eq_false c17
       have c17b1 : decide (40 < x6_1.length) = false := decide_eq_false (by omega)
       clear c17
       (first | rw [c17b0] | (simp only [i64_w, i32_w]; rw [c17b0]) | skip)
       by_cases c18 : (l1.length : Int) < (x6_1.length : Int)
       ·rw [if_pos c18] at H
        have c18b0 : decide ((l1.length : Int) < (x6_1.length : Int)) = true := decide_eq_true c18
        have c18b1 : decide (l1.length < x6_1.length) = true := decide_eq_true (Int.ofNat_lt.mp c18)
        clear c18
        have H' := Aside0.mk H
        clear H
        go_wp2
        go_meet
        case rel => exact ⟨_, (true), (by first | rfl | (simp; done) | (simp [*]; done)), H', ⟨by have := HK1.out; first | omega | exact Nat.le_refl _⟩, ⟨by (try simp only [hl6_1]); (with_reducible repeat (first | apply Kd.R_alloc | apply Kd.R_drewN | apply Kd.R_drew)); exact HO_6.out⟩, ⟨by repeat (first | (with_reducible first | exact HB.out | apply below_alloc | apply pw_below_drewN | apply below_drew1) | exact HB.out)⟩⟩
       ·rw [if_neg c18] at H
        have c18b0 : decide ((l1.length : Int) < (x6_1.length : Int)) = false := decide_eq_false c18
        have c18b1 : decide (l1.length < x6_1.length) = false := decide_eq_false (fun h => c18 (Int.ofNat_lt.mpr h))
        clear c18
        replace H := Option.bind_eq_some_iff.mp H
        obtain ⟨t468, A190, H⟩ := H
        replace H : (cohousinglaw28_FlowSubmeters.j1 k1 l1 t460 x6_1 (!t468)) = some r := H
        have A19 := Aside0.mk A190
        clear A190
        have H' := Aside0.mk H
        clear H
        go_wp2_with (first | (go_at_call 13; (with_reducible refine (flow_Valid.calls _ _ x6_1 t468 _ ?side1 ?side2 A19.out).mono ?_); (case side1 => repeat (first | exact (Kd.R_reads' HO_6.out).2.2 | (with_reducible refine Kd.C_alloc ?_ _) | (with_reducible refine Kd.C_drewN ?_ _) | (with_reducible refine Kd.C_drew ?_))); (case side2 => exact (Kd.R_reads' HO_6.out).2.1); rintro e w20 ⟨rfl, hb⟩; have n0_ := Aside0.mk (Kd.R_below (by (with_reducible repeat (first | apply Kd.R_alloc | apply Kd.R_drewN | apply Kd.R_drew)); exact HO_6.out) hb); have n1_ := Aside0.mk (below_step (by repeat (first | (with_reducible first | exact HB.out | apply below_alloc | apply pw_below_drewN | apply below_drew1) | exact HB.out)) hb); clear HO_6; clear HB; have HO_6 := n0_; have HB := n1_; clear n0_ n1_; (try clear hb); (try clear hb2); (try clear hk); (try clear hi)))
        go_meet
        case rel => exact ⟨_, (!t468), (by first | rfl | (simp; done) | (simp [*]; done)), H', ⟨by have := HK1.out; first | omega | exact Nat.le_refl _⟩, ⟨by (try simp only [hl6_1]); (with_reducible repeat (first | apply Kd.R_alloc | apply Kd.R_drewN | apply Kd.R_drew)); exact HO_6.out⟩, ⟨by repeat (first | (with_reducible first | exact HB.out | apply below_alloc | apply pw_below_drewN | apply below_drew1) | exact HB.out)⟩⟩
     case rest =>
      clear HC16
      try clear c1
      try clear p1
      try clear q1
      try clear hx1
      try clear p2
      try clear c4
      try clear p6
      try clear c9
      try clear c10
      try clear c10b0
      try clear c11
      try clear c11b0
      try clear c12
      try clear c12b0
      try clear c13
      try clear p13
      try clear q13
      try clear hx13
      try clear hf13
      try clear c14
      try clear hx14
      try clear hf14
      try clear c17
      try clear c17b0
      try clear c17b1
      try clear c18
      try clear c18b0
      try clear c18b1
      try clear hx13_0
      try clear hx13_1
      try clear hx13_2
      try clear hx14_2
      try clear p13
      try clear p2
      try clear q13
      obtain ⟨kq, x47_15, rfl, HA, HJ15, HO_6, HB⟩ := hcut
      cases kq with
      | zero => exact absurd HA.out (by simp [cohousinglaw28_FlowSubmeters.j1])
      | succ kj15 =>
       have H := HA.out
       clear HA
       simp only [cohousinglaw28_FlowSubmeters.j1] at H
       by_cases c21 : x47_15 = true
       ·subst c21
        have H1 : (some t460) = some r := by rw [if_pos rfl] at H; exact H
        clear H
        have H := H1
        clear H1
        obtain rfl := Option.some.inj H
        go_wp2
        go_ret
        exact ⟨by first | rfl | (simp [errW_none, errW_some] <;> rfl) | (simp [*, errW_none, errW_some] <;> rfl), by repeat (first | (with_reducible first | exact HB.out | apply below_alloc | apply pw_below_drewN | apply below_drew1) | exact HB.out)⟩
       ·replace c21 := Bool.eq_false_iff.mpr c21
        subst c21
        have H1 : (if 0 ≤ (x6_1.length : Int) then (if ((x6_1.length : Int) : Int).toNat ≤ 35184372088832 then (cohousinglaw28_FlowSubmeters.l1 kj15 l1 t460 x6_1 (List.replicate ((x6_1.length : Int) : Int).toNat 0) ([] : List (S39)) (x6_1.length : Int) 0) else (none)) else (none)) = some r := by rw [if_neg (show ¬ (false = true) by decide)] at H; exact H
        clear H
        have H := H1
        clear H1
        by_cases c22 : 0 ≤ (x6_1.length : Int)
        ·rw [if_pos c22] at H
         have c22b0 := eq_true c22
         have c22b1 : decide (0 ≤ (x6_1.length : Int)) = true := decide_eq_true c22
         clear c22
         by_cases c23 : ((x6_1.length : Int) : Int).toNat ≤ 35184372088832
         ·rw [if_pos c23] at H
          have c23b0 := eq_true c23
          have c23b1 : decide (((x6_1.length : Int) : Int).toNat ≤ 35184372088832) = true := decide_eq_true c23
          clear c23
          obtain ⟨y469, hy469⟩ : ∃ y_ : List Int, y_ = (List.replicate ((x6_1.length : Int) : Int).toNat 0) := ⟨_, rfl⟩
          replace H : (cohousinglaw28_FlowSubmeters.l1 kj15 l1 t460 x6_1 y469 ([] : List (S39)) (x6_1.length : Int) 0) = some r := by first | (rw [hy469]; with_reducible exact H) | (have H2_ := (Option.bind_some _ _).symm.trans H; rw [hy469]; with_reducible exact H2_) | (have H2_ := (Option.bind_some _ _).symm.trans H; with_reducible exact H2_) | with_reducible exact H | (rw [hy469]; exact H) | exact H
          have Ny469 := Aside0.mk hy469
          clear hy469
          have H' := Aside0.mk H
          clear H
          go_wp2_with (first | ((with_reducible refine gate_dst (N := 51) rfl ?_); (try (refine gate_guard (by rfl) ?_; dsimp only)); refine Kd.R_make (Kd.int .i64) _ 3 rfl (N := 51) rfl 24 _ _ rfl (x6_1.length : Int) rfl rfl Try.underlying24 (.int .i64 0) 8 info3 rfl (by decide) (by omega) 0 (ok := fun _ => True) (okp := fun _ => True) rfl (fun _ hk => hk) trivial (of_decide_eq_true (by first | (with_reducible assumption) | assumption)) (Nat.le_trans (Nat.mul_le_mul_right _ (of_decide_eq_true (by first | (with_reducible assumption) | assumption) : (x6_1.length : Int).toNat ≤ 35184372088832)) (by omega)) (Below.refl _ _) (Nat.le_refl _) ?_; intro v470 w24 ho25 hb hg_ hnew_; clear hg_ hnew_; (first | rw [← Ny469.out] at ho25 | (simp only [Int.reduceToNat] at ho25; rw [← Ny469.out] at ho25)); have n0_ := Aside0.mk (Kd.R_below (by (with_reducible repeat (first | apply Kd.R_alloc | apply Kd.R_drewN | apply Kd.R_drew)); exact HO_6.out) hb); have n1_ := Aside0.mk (Kd.R_lower ho25 (below_size (by repeat (first | (with_reducible first | exact HB.out | apply below_alloc | apply pw_below_drewN | apply below_drew1) | exact HB.out)))); have n2_ := Aside0.mk (below_step (by repeat (first | (with_reducible first | exact HB.out | apply below_alloc | apply pw_below_drewN | apply below_drew1) | exact HB.out)) hb); clear HO_6; clear HB; have HO_6 := n0_; have HO471 := n1_; have HB := n2_; clear n0_ n1_ n2_; clear hb ho25))
          go_loopg [9, 54] kj15 (fun kq v9 v54 w' => ∃ (x8_3 : List Int) (x9_3 : List (S39)) (x54_3 : Int), v54 = .int .i64 x54_3 ∧ Aside0 (cohousinglaw28_FlowSubmeters.l1 kq l1 t460 x6_1 x8_3 x9_3 (x6_1.length : Int) x54_3 = some r) ∧ Aside0 (kq ≤ kj15) ∧ Aside0 (Kd.R k44 44 w' w.heap.size (fun _ => True) (.slice Ao9 x6_1.length co9) x6_1) ∧ Aside0 (Kd.R (Kd.int .i64) 3 w' w.heap.size (fun _ => True) v470 x8_3) ∧ Aside0 (Kd.R k39 39 w' w.heap.size (fun _ => True) v9 x9_3) ∧ Aside0 (Below w.heap.size w w'))
          case atStart => exact ⟨(y469), (([] : List (S39))), (0), (by first | rfl | (simp; done) | (simp [*]; done)), H', ⟨Nat.le_refl _⟩, ⟨by (try simp only [hl6_1]); (with_reducible repeat (first | apply Kd.R_alloc | apply Kd.R_drewN | apply Kd.R_drew)); exact HO_6.out⟩, ⟨by (try simp only [hl6_1]); (with_reducible repeat (first | apply Kd.R_alloc | apply Kd.R_drewN | apply Kd.R_drew)); exact HO471.out⟩, ⟨by (try simp only [hl6_1]); first | exact Kd.R_nil _ _ _ _ _ | exact Kd.N_nil _ _ _ _ _ | exact Kd.V_nil _ _ _ _ _ | exact Kd.Q_nil _ _ _ _ _ | exact Kd.S_nil _ _ _ _ _⟩, ⟨by repeat (first | (with_reducible first | exact HB.out | apply below_alloc | apply pw_below_drewN | apply below_drew1) | exact HB.out)⟩⟩
          case round =>
           clear H'
           try clear c1
           try clear p1
           try clear q1
           try clear hx1
           try clear c2
           try clear p2
           try clear c4
           try clear p6
           try clear c9
           try clear c10
           try clear c10b0
           try clear c11
           try clear c11b0
           try clear c12
           try clear c12b0
           try clear c13
           try clear p13
           try clear q13
           try clear hx13
           try clear hf13
           try clear c14
           try clear hx14
           try clear hf14
           try clear c17
           try clear c17b0
           try clear c17b1
           try clear c18
           try clear c18b0
           try clear c18b1
           try clear c21
           try clear c22
           try clear c22b0
           try clear c22b1
           try clear c23
           try clear c23b0
           try clear c23b1
           try clear hx13_0
           try clear hx13_1
           try clear hx13_2
           try clear hx14_2
           try clear p1
           try clear p13
           try clear p2
           try clear p6
           try clear q1
           try clear q13
           obtain ⟨x8_3, x9_3, x54_3, rfl, HA, HK3, HO_6, HO_8, HO_9, HB⟩ := hrel
           cases gk with
           | zero => exact absurd HA.out (by simp [cohousinglaw28_FlowSubmeters.l1])
           | succ k3 =>
            have H := HA.out
            clear HA
            simp only [cohousinglaw28_FlowSubmeters.l1] at H
            by_cases c26 : x54_3 < (x6_1.length : Int)
            ·rw [if_pos c26] at H
             have c26b0 : decide (x54_3 < (x6_1.length : Int)) = true := decide_eq_true c26
             clear c26
             replace H := Option.bind_eq_some_iff.mp H
             obtain ⟨t473, A270, H⟩ := H
             replace H : (if t473 = true then (if 0 ≤ x54_3 then (if x54_3 < (l1.length : Int) then (if (Int.tmod (rd l1 x54_3) 1000000001) < 0 then (if x54_3 < (x8_3.length : Int) then (if x9_3.length < 8796093022208 then (cohousinglaw28_FlowSubmeters.l1 k3 l1 t460 x6_1 (x8_3.set (x54_3 : Int).toNat (wrap64 (-(Int.tmod (rd l1 x54_3) 1000000001)))) (x9_3 ++ [(⟨wrap64 (-(Int.tmod (rd l1 x54_3) 1000000001)), wrap64 (-(Int.tmod (rd l1 x54_3) 1000000001))⟩ : S39)]) (x6_1.length : Int) (wrap64 (x54_3 + 1))) else (none)) else (none)) else (if x54_3 < (x8_3.length : Int) then (if x9_3.length < 8796093022208 then (cohousinglaw28_FlowSubmeters.l1 k3 l1 t460 x6_1 (x8_3.set (x54_3 : Int).toNat (Int.tmod (rd l1 x54_3) 1000000001)) (x9_3 ++ [(⟨Int.tmod (rd l1 x54_3) 1000000001, Int.tmod (rd l1 x54_3) 1000000001⟩ : S39)]) (x6_1.length : Int) (wrap64 (x54_3 + 1))) else (none)) else (none))) else (none)) else (none)) else (if x9_3.length < 8796093022208 then (cohousinglaw28_FlowSubmeters.l1 k3 l1 t460 x6_1 x8_3 (x9_3 ++ [(⟨0, 1000000000⟩ : S39)]) (x6_1.length : Int) (wrap64 (x54_3 + 1))) else (none))) = some r := H
             have A27 := Aside0.mk A270
             clear A270
             by_cases c28 : t473 = true
             ·subst c28
              have H1 : (if 0 ≤ x54_3 then (if x54_3 < (l1.length : Int) then (if (Int.tmod (rd l1 x54_3) 1000000001) < 0 then (if x54_3 < (x8_3.length : Int) then (if x9_3.length < 8796093022208 then (cohousinglaw28_FlowSubmeters.l1 k3 l1 t460 x6_1 (x8_3.set (x54_3 : Int).toNat (wrap64 (-(Int.tmod (rd l1 x54_3) 1000000001)))) (x9_3 ++ [(⟨wrap64 (-(Int.tmod (rd l1 x54_3) 1000000001)), wrap64 (-(Int.tmod (rd l1 x54_3) 1000000001))⟩ : S39)]) (x6_1.length : Int) (wrap64 (x54_3 + 1))) else (none)) else (none)) else (if x54_3 < (x8_3.length : Int) then (if x9_3.length < 8796093022208 then (cohousinglaw28_FlowSubmeters.l1 k3 l1 t460 x6_1 (x8_3.set (x54_3 : Int).toNat (Int.tmod (rd l1 x54_3) 1000000001)) (x9_3 ++ [(⟨Int.tmod (rd l1 x54_3) 1000000001, Int.tmod (rd l1 x54_3) 1000000001⟩ : S39)]) (x6_1.length : Int) (wrap64 (x54_3 + 1))) else (none)) else (none))) else (none)) else (none)) = some r := by rw [if_pos rfl] at H; exact H
              clear H
              have H := H1
              clear H1
              by_cases c29 : 0 ≤ x54_3
              ·rw [if_pos c29] at H
               have c29b0 : decide (0 ≤ x54_3) = true := decide_eq_true c29
               clear c29
               by_cases c30 : x54_3 < (l1.length : Int)
               ·rw [if_pos c30] at H
                have c30b0 : decide (x54_3 < (l1.length : Int)) = true := decide_eq_true c30
                clear c30
                by_cases c31 : (Int.tmod (rd l1 x54_3) 1000000001) < 0
                ·rw [if_pos c31] at H
                 have c31b0 : decide ((Int.tmod (rd l1 x54_3) 1000000001) < 0) = true := decide_eq_true c31
                 clear c31
                 by_cases c32 : x54_3 < (x8_3.length : Int)
                 ·rw [if_pos c32] at H
                  have c32b0 : decide (x54_3 < (x8_3.length : Int)) = true := decide_eq_true c32
                  clear c32
                  obtain ⟨y475, hy475⟩ : ∃ y_ : List Int, y_ = (x8_3.set (x54_3 : Int).toNat (wrap64 (-(Int.tmod (rd l1 x54_3) 1000000001)))) := ⟨_, rfl⟩
                  replace H : (if x9_3.length < 8796093022208 then (cohousinglaw28_FlowSubmeters.l1 k3 l1 t460 x6_1 y475 (x9_3 ++ [(⟨wrap64 (-(Int.tmod (rd l1 x54_3) 1000000001)), wrap64 (-(Int.tmod (rd l1 x54_3) 1000000001))⟩ : S39)]) (x6_1.length : Int) (wrap64 (x54_3 + 1))) else (none)) = some r := by first | (rw [hy475]; with_reducible exact H) | (have H2_ := (Option.bind_some _ _).symm.trans H; rw [hy475]; with_reducible exact H2_) | (have H2_ := (Option.bind_some _ _).symm.trans H; with_reducible exact H2_) | with_reducible exact H | (rw [hy475]; exact H) | exact H
                  have Ny475 := Aside0.mk hy475
                  clear hy475
                  by_cases c34 : x9_3.length < 8796093022208
                  ·rw [if_pos c34] at H
                   have LMc34 := Aside0.mk c34
                   clear c34
                   obtain ⟨y476, hy476⟩ : ∃ y_ : List (S39), y_ = (x9_3 ++ [(⟨wrap64 (-(Int.tmod (rd l1 x54_3) 1000000001)), wrap64 (-(Int.tmod (rd l1 x54_3) 1000000001))⟩ : S39)]) := ⟨_, rfl⟩
                   replace H : (cohousinglaw28_FlowSubmeters.l1 k3 l1 t460 x6_1 y475 y476 (x6_1.length : Int) (wrap64 (x54_3 + 1))) = some r := by first | (rw [hy476]; with_reducible exact H) | (have H2_ := (Option.bind_some _ _).symm.trans H; rw [hy476]; with_reducible exact H2_) | (have H2_ := (Option.bind_some _ _).symm.trans H; with_reducible exact H2_) | with_reducible exact H | (rw [hy476]; exact H) | exact H
                   have Ny476 := Aside0.mk hy476
                   clear hy476
                   have H' := Aside0.mk H
                   clear H
                   go_wp2_with (first | ((with_reducible refine gate_dst (N := 11) rfl ?_); (try (refine gate_guard (by rfl) ?_; dsimp only)); refine box_event ?hg (N := 11) ?hd (cs := #[.int .i64 0, .int .i64 0]) (t := 39) ?hr ?_; (case hd => rfl); (case hg => rfl); (case hr => first | (go_simp; done) | (go_simp; rfl)); intro gb472 hg w35 hbox hb; have n0_ := Aside0.mk (Kd.R_below (by (with_reducible repeat (first | apply Kd.R_alloc | apply Kd.R_drewN | apply Kd.R_drew)); exact HO_6.out) hb); have n1_ := Aside0.mk (Kd.R_below (by (with_reducible repeat (first | apply Kd.R_alloc | apply Kd.R_drewN | apply Kd.R_drew)); exact HO_8.out) hb); have n2_ := Aside0.mk (Kd.R_below (Kd.R_elderB (by (with_reducible repeat (first | apply Kd.R_alloc | apply Kd.R_drewN | apply Kd.R_drew)); exact HO_9.out) gb472 (Nat.le_of_eq hg.symm)) hb); have n3_ := Aside0.mk (below_step (by repeat (first | (with_reducible first | exact HB.out | apply below_alloc | apply pw_below_drewN | apply below_drew1) | exact HB.out)) hb); have n4_ := Aside0.mk (hbox); have n5_ := Aside0.mk ((by rw [hg]; exact (below_size (by repeat (first | (with_reducible first | exact HB.out | apply below_alloc | apply pw_below_drewN | apply below_drew1) | exact HB.out))) : w.heap.size ≤ gb472)); have n6_ := Aside0.mk ((by rw [hg]; exact (below_size (by repeat (first | (with_reducible first | exact HB.out | apply below_alloc | apply pw_below_drewN | apply below_drew1) | exact HB.out))) : w.heap.size ≤ gb472)); clear HO_6; clear HO_8; clear HO_9; clear HB; have HO_6 := n0_; have HO_8 := n1_; have HO_9 := n2_; have HB := n3_; have BK472 := n4_; have GW472 := n5_; have GE472 := n6_; clear n0_ n1_ n2_ n3_ n4_ n5_ n6_; clear hb hbox hg; have hcz36_0 : w35.cell? ⟨gb472, 0, none⟩ = some (.int .i64 0) := (blk_cell BK472.out 0).trans rfl; have hcz36_1 : w35.cell? ⟨gb472, 1, none⟩ = some (.int .i64 0) := (blk_cell BK472.out 1).trans rfl; have hfz36_0 := blk_frozen BK472.out 0; have hfz36_1 := blk_frozen BK472.out 1) | ((with_reducible refine gate_callee (f := 24) rfl ?_); refine goesL_ (some 60) rfl rfl Try.func24 (by kernel_rfl) rfl #[.slice Ao9 x6_1.length co9, .int .i64 x54_3] rfl (by (try simp only [List.map_toArray, List.map_cons, List.map_nil]); first | done | rfl | (simp only [List.length_drop, List.length_take]; rfl)) ?_; (with_reducible refine (cohousingref28_Leaf.calls k3 _ _ x6_1 x54_3 true _ ?side1 ?side2 A27.out).mono ?_); (case side1 => refine (Kd.R_reads' (e := 44) (base := w.heap.size) (ok := fun k_ => True) (n := x6_1.length) (c := co9) ?_).2.2; exact (by (with_reducible repeat (first | apply Kd.R_alloc | apply Kd.R_drewN | apply Kd.R_drew)); exact (Kd.R_mono (Kd.R_far (p := ⟨gb472, 1, none⟩) (Kd.R_far (p := ⟨gb472, 0, none⟩) (Kd.R_types HO_6.out BK472.out (by decide)) (fun _ hk => hk.2) (.int .i64 0)) (fun _ hk => hk.2) (.int .i64 1000000000)) (fun _ h_ => h_.1)))); (case side2 => exact (Kd.R_reads' HO_6.out).2.1); rintro e w37 ⟨rfl, hb⟩; refine ⟨_, rfl, ?_⟩; have n0_ := Aside0.mk (Kd.R_below (by (with_reducible repeat (first | apply Kd.R_alloc | apply Kd.R_drewN | apply Kd.R_drew)); exact (Kd.R_mono (Kd.R_far (p := ⟨gb472, 1, none⟩) (Kd.R_far (p := ⟨gb472, 0, none⟩) (Kd.R_types HO_6.out BK472.out (by decide)) (fun _ hk => hk.2) (.int .i64 0)) (fun _ hk => hk.2) (.int .i64 1000000000)) (fun _ h_ => h_.1))) hb); have n1_ := Aside0.mk (Kd.R_below (by (with_reducible repeat (first | apply Kd.R_alloc | apply Kd.R_drewN | apply Kd.R_drew)); exact (Kd.R_mono (Kd.R_far (p := ⟨gb472, 1, none⟩) (Kd.R_far (p := ⟨gb472, 0, none⟩) (Kd.R_types HO_8.out BK472.out (by decide)) (fun _ hk => hk.2) (.int .i64 0)) (fun _ hk => hk.2) (.int .i64 1000000000)) (fun _ h_ => h_.1))) hb); have n2_ := Aside0.mk (Kd.R_below (by (with_reducible repeat (first | apply Kd.R_alloc | apply Kd.R_drewN | apply Kd.R_drew)); exact (Kd.R_mono (Kd.R_far (p := ⟨gb472, 1, none⟩) (Kd.R_far (p := ⟨gb472, 0, none⟩) (Kd.R_mono HO_9.out (fun k_ hk => (⟨hk, hk.2⟩ : _ ∧ k_ ≠ gb472))) (fun _ hk => hk.2) (.int .i64 0)) (fun _ hk => hk.2) (.int .i64 1000000000)) (fun _ h_ => h_.1))) hb); have n3_ := Aside0.mk (blk_below (g := gb472) (o := .cells #[.int .i64 0, .int .i64 1000000000] 39 (0, 0)) (by (with_reducible repeat (first | refine blk_drewN ?_ _ | refine blk_drew ?_ | refine blk_alloc ?_ _)); refine blk_put (cs := #[.int .i64 0, .int .i64 0]) ?_ 1 _ rfl; (with_reducible repeat (first | refine blk_drewN ?_ _ | refine blk_drew ?_ | refine blk_alloc ?_ _)); refine blk_put (cs := #[.int .i64 0, .int .i64 0]) ?_ 0 _ rfl; (with_reducible repeat (first | refine blk_drewN ?_ _ | refine blk_drew ?_ | refine blk_alloc ?_ _)); exact BK472.out) hb); have n4_ := Aside0.mk (below_step (by repeat (first | (with_reducible first | exact HB.out | apply below_alloc | apply pw_below_drewN | apply below_drew1 | refine below_set ?_ GE472.out) | exact HB.out)) hb); clear HO_6; clear HO_8; clear HO_9; clear BK472; clear HB; have HO_6 := n0_; have HO_8 := n1_; have HO_9 := n2_; have BK472 := n3_; have HB := n4_; clear n0_ n1_ n2_ n3_ n4_; (try clear hb); (try clear hb2); (try clear hk); (try clear hi); have p474 : 0 ≤ (x54_3 : Int) := of_decide_eq_true (by first | (with_reducible assumption) | assumption); have q474 : x54_3 < (l1.length : Int) := of_decide_eq_true (by first | (with_reducible assumption) | assumption); obtain ⟨ad474, e474, hx474_0⟩ := Kd.at_int HR1.out x54_3 p474 q474; cases e474; replace hx474_0 := (HB.out.cell (World.block_lt_of_cell? w _ hx474_0)).trans hx474_0; replace p474 := eq_true p474; replace q474 := eq_true q474; have hcz38_0 : w37.cell? ⟨gb472, 0, none⟩ = some (.int .i64 0) := (blk_cell BK472.out 0).trans rfl; have hcz38_1 : w37.cell? ⟨gb472, 1, none⟩ = some (.int .i64 1000000000) := (blk_cell BK472.out 1).trans rfl; have hfz38_0 := blk_frozen BK472.out 0; have hfz38_1 := blk_frozen BK472.out 1) | ((with_reducible refine gate_store (t := 39) (p := 11) rfl ?_); refine store_event (t := 39) (p := 11) (v := ?vo_w39) (w1 := ((w37.setCell ⟨gb472, 0, none⟩ (.int .i64 (wrap64 (-(Int.tmod (rd l1 x54_3) 1000000001))))).setCell ⟨gb472, 1, none⟩ (.int .i64 (wrap64 (-(Int.tmod (rd l1 x54_3) 1000000001)))))) ?hg ?ho ?hn ?hr ?_; (case ho => rfl); (case hg => rfl); (case hn => rfl); (case hr => first | (go_simp; done) | (go_simp; rfl)); intro w39 hw; have n0_ : Aside0 (Kd.R k44 44 w39 w.heap.size (fun _ => True) (.slice Ao9 x6_1.length co9) x6_1) := ⟨(by rw [hw]; exact (by (with_reducible repeat (first | apply Kd.R_alloc | apply Kd.R_drewN | apply Kd.R_drew)); exact Kd.R_mono (Kd.R_far (p := ⟨gb472, 1, none⟩) (Kd.R_far (p := ⟨gb472, 0, none⟩) (Kd.R_types HO_6.out BK472.out (by decide)) (fun _ hk => hk.2) (.int .i64 (wrap64 (-(Int.tmod (rd l1 x54_3) 1000000001))))) (fun _ hk => hk.2) (.int .i64 (wrap64 (-(Int.tmod (rd l1 x54_3) 1000000001))))) (fun _ hk => trivial)))⟩; have n1_ : Aside0 (Kd.R (Kd.int .i64) 3 w39 w.heap.size (fun _ => True) v470 x8_3) := ⟨(by rw [hw]; exact (by (with_reducible repeat (first | apply Kd.R_alloc | apply Kd.R_drewN | apply Kd.R_drew)); exact Kd.R_mono (Kd.R_far (p := ⟨gb472, 1, none⟩) (Kd.R_far (p := ⟨gb472, 0, none⟩) (Kd.R_types HO_8.out BK472.out (by decide)) (fun _ hk => hk.2) (.int .i64 (wrap64 (-(Int.tmod (rd l1 x54_3) 1000000001))))) (fun _ hk => hk.2) (.int .i64 (wrap64 (-(Int.tmod (rd l1 x54_3) 1000000001))))) (fun _ hk => trivial)))⟩; have n2_ : Aside0 (Kd.R k39 39 w39 w.heap.size (fun k_ => k_ ≠ gb472) u9 x9_3) := ⟨(by rw [hw]; exact (by (with_reducible repeat (first | apply Kd.R_alloc | apply Kd.R_drewN | apply Kd.R_drew)); exact Kd.R_mono (Kd.R_far (p := ⟨gb472, 1, none⟩) (Kd.R_far (p := ⟨gb472, 0, none⟩) (Kd.R_mono HO_9.out (fun k_ hk => (⟨hk, hk.2⟩ : _ ∧ k_ ≠ gb472))) (fun _ hk => hk.2) (.int .i64 (wrap64 (-(Int.tmod (rd l1 x54_3) 1000000001))))) (fun _ hk => hk.2) (.int .i64 (wrap64 (-(Int.tmod (rd l1 x54_3) 1000000001))))) (fun _ hk => hk.1.2)))⟩; have n3_ : Aside0 (w39.heap[gb472]? = some (.cells #[.int .i64 (wrap64 (-(Int.tmod (rd l1 x54_3) 1000000001))), .int .i64 (wrap64 (-(Int.tmod (rd l1 x54_3) 1000000001)))] 39 (0, 0))) := ⟨(by rw [hw]; exact (by (with_reducible repeat (first | refine blk_drewN ?_ _ | refine blk_drew ?_ | refine blk_alloc ?_ _)); refine blk_put (cs := #[.int .i64 (wrap64 (-(Int.tmod (rd l1 x54_3) 1000000001))), .int .i64 1000000000]) ?_ 1 _ rfl; (with_reducible repeat (first | refine blk_drewN ?_ _ | refine blk_drew ?_ | refine blk_alloc ?_ _)); refine blk_put (cs := #[.int .i64 0, .int .i64 1000000000]) ?_ 0 _ rfl; (with_reducible repeat (first | refine blk_drewN ?_ _ | refine blk_drew ?_ | refine blk_alloc ?_ _)); exact BK472.out))⟩; have n4_ : Aside0 (Below w.heap.size w w39) := ⟨(by rw [hw]; exact (by repeat (first | (with_reducible first | exact HB.out | apply below_alloc | apply pw_below_drewN | apply below_drew1 | refine below_set ?_ GE472.out) | exact HB.out)))⟩; clear hw; clear HO_6; clear HO_8; clear HO_9; clear BK472; clear HB; have HO_6 := n0_; have HO_8 := n1_; have HO_9 := n2_; have BK472 := n3_; have HB := n4_; clear n0_ n1_ n2_ n3_ n4_; have p33 : 0 ≤ (x54_3 : Int) := of_decide_eq_true (by first | (with_reducible assumption) | assumption); have q33 : (x54_3 : Int) < ((x8_3.length : Int) : Int) := of_decide_eq_true (by first | (with_reducible assumption) | assumption); obtain ⟨go33, co33, eo33, gb33, gl33, cl33, HG33⟩ := Kd.R_form HO_8.out (by omega); (first | cases eo33 | (injection eo33 with ea_ en_ ec_; (first | subst ea_ | (injection ea_ with ea_; subst ea_)); subst ec_; clear en_)); have GB33 := Aside0.mk gb33; have GG33 := Aside0.mk HG33; clear gb33 gl33 HG33; obtain ⟨hx33_0, hf33_0⟩ := Kd.R_celln 0 HO_8.out (x54_3 : Int) p33 q33; replace p33 := eq_true p33; replace q33 := eq_true q33; obtain ⟨hy40_, hz40_⟩ := Kd.R_celln 0 HO_8.out (x54_3 : Int) (of_decide_eq_true (by first | (with_reducible assumption) | assumption)) (of_decide_eq_true (by first | (with_reducible assumption) | assumption)); have HP40 := Kd.R_putg HO_8.out (x54_3 : Int) (wrap64 (-(Int.tmod (rd l1 x54_3) 1000000001)))) | ((with_reducible refine gate_store (t := 3) (p := 76) rfl ?_); refine store_event (t := 3) (p := 76) (v := ?vo_w41) (w1 := (w39.setCell ⟨go33, (x54_3 : Int).toNat, none⟩ (.int .i64 (wrap64 (-(Int.tmod (rd l1 x54_3) 1000000001)))))) ?hg ?ho ?hn ?hr ?_; (case ho => rfl); (case hg => rfl); (case hn => rfl); (case hr => first | (go_simp; done) | (go_simp; rfl)); intro w41 hw; have hg : w39.grownBy w41 (some go33) := (by rw [hw]; exact HP40.2); have hp_ : Kd.R (Kd.int .i64) 3 w41 w.heap.size (fun _ => True) (.slice (some ⟨go33, 0, none⟩) x8_3.length co33) y475 := (by rw [hw, Ny475.out]; exact HP40.1); clear HP40; have n0_ := Aside0.mk (Kd.R_over' (v := (.slice (some ⟨go33, 0, none⟩) x8_3.length co33)) (by (with_reducible repeat (first | apply Kd.R_alloc | apply Kd.R_drewN | apply Kd.R_drew)); exact HO_6.out) (Kd.R_typed HO_8.out) (by decide) hg); have n1_ := Aside0.mk (hp_); have n2_ := Aside0.mk (Kd.R_over' (v := (.slice (some ⟨go33, 0, none⟩) x8_3.length co33)) (by (with_reducible repeat (first | apply Kd.R_alloc | apply Kd.R_drewN | apply Kd.R_drew)); exact HO_9.out) (Kd.R_typed HO_8.out) (by decide) hg); have n3_ := Aside0.mk (blk_grown (g := gb472) (o := .cells #[.int .i64 (wrap64 (-(Int.tmod (rd l1 x54_3) 1000000001))), .int .i64 (wrap64 (-(Int.tmod (rd l1 x54_3) 1000000001)))] 39 (0, 0)) (by (with_reducible repeat (first | refine blk_drewN ?_ _ | refine blk_drew ?_ | refine blk_alloc ?_ _)); exact BK472.out) hg (Kd.R_ne HO_8.out BK472.out (by decide))); have n4_ := Aside0.mk ((by rw [hw]; exact below_set (HB.out) GB33.out : Below w.heap.size w w41)); clear HO_6; clear HO_8; clear HO_9; clear BK472; clear HB; have HO_6 := n0_; have HO_8 := n1_; have HO_9 := n2_; have BK472 := n3_; have HB := n4_; clear n0_ n1_ n2_ n3_ n4_; clear hg hw hp_; have hcz42_0 : w41.cell? ⟨gb472, 0, none⟩ = some (.int .i64 (wrap64 (-(Int.tmod (rd l1 x54_3) 1000000001)))) := (blk_cell BK472.out 0).trans rfl; have hcz42_1 : w41.cell? ⟨gb472, 1, none⟩ = some (.int .i64 (wrap64 (-(Int.tmod (rd l1 x54_3) 1000000001)))) := (blk_cell BK472.out 1).trans rfl; have hfz42_0 := blk_frozen BK472.out 0; have hfz42_1 := blk_frozen BK472.out 1) | ((with_reducible refine gate_builtin (b := .append) (xs := #[.tmp 77, .tmp 79]) rfl ?_); (try (refine gate_guard (by rfl) ?_; dsimp only)); at_builtin; refine Kd.R_append k39 (w0 := w) w.heap.size rfl (.tmp 77) (.tmp 79) 23 39 (.agg #[(.int .i64 0), (.int .i64 0)]) 16 rfl Try.underlying23 info39 rfl (by decide) (by omega) u9 x9_3 (⟨wrap64 (-(Int.tmod (rd l1 x54_3) 1000000001)), wrap64 (-(Int.tmod (rd l1 x54_3) 1000000001))⟩ : S39) [.int .i64 (wrap64 (-(Int.tmod (rd l1 x54_3) 1000000001))), .int .i64 (wrap64 (-(Int.tmod (rd l1 x54_3) 1000000001)))] (fun k_ => k_ ≠ gb472) (fun _ => False) rfl rfl ?aP (fun _ hk => hk.elim) ?aF ?aO ?aB ?aS ?aL ?_; (case aP => exact k39_mkM _ _ _ (⟨wrap64 (-(Int.tmod (rd l1 x54_3) 1000000001)), wrap64 (-(Int.tmod (rd l1 x54_3) 1000000001))⟩ : S39)); (case aB => exact (by repeat (first | (with_reducible first | exact HB.out | apply below_alloc | apply pw_below_drewN | apply below_drew1 | refine below_set ?_ GE472.out) | exact HB.out))); (case aF => exact (fun k_ hk => Kd.freshB (g := gb472) (o := .cells #[.int .i64 (wrap64 (-(Int.tmod (rd l1 x54_3) 1000000001))), .int .i64 (wrap64 (-(Int.tmod (rd l1 x54_3) 1000000001)))] 39 (0, 0)) (by (with_reducible repeat (first | refine blk_drewN ?_ _ | refine blk_drew ?_ | refine blk_alloc ?_ _)); exact BK472.out) k_ hk)); (case aO => exact (by (with_reducible repeat (first | apply Kd.R_alloc | apply Kd.R_drewN | apply Kd.R_drew)); exact HO_9.out)); (case aS => exact (below_size (by repeat (first | (with_reducible first | exact HB.out | apply below_alloc | apply pw_below_drewN | apply below_drew1 | refine below_set ?_ GE472.out) | exact HB.out)))); (case aL => have := LMc34.out; omega); intro v477 w43 ho hb hg hat; rw [← Ny476.out] at ho; have n0_ := Aside0.mk (Kd.R_over' (by (with_reducible repeat (first | apply Kd.R_alloc | apply Kd.R_drewN | apply Kd.R_drew)); exact HO_6.out) (Kd.R_typed (by (with_reducible repeat (first | apply Kd.R_alloc | apply Kd.R_drewN | apply Kd.R_drew)); exact HO_9.out)) (by decide) hg); have n1_ := Aside0.mk (Kd.R_over' (by (with_reducible repeat (first | apply Kd.R_alloc | apply Kd.R_drewN | apply Kd.R_drew)); exact HO_8.out) (Kd.R_typed (by (with_reducible repeat (first | apply Kd.R_alloc | apply Kd.R_drewN | apply Kd.R_drew)); exact HO_9.out)) (by decide) hg); have n2_ := Aside0.mk (blk_grown (g := gb472) (o := .cells #[.int .i64 (wrap64 (-(Int.tmod (rd l1 x54_3) 1000000001))), .int .i64 (wrap64 (-(Int.tmod (rd l1 x54_3) 1000000001)))] 39 (0, 0)) (by (with_reducible repeat (first | refine blk_drewN ?_ _ | refine blk_drew ?_ | refine blk_alloc ?_ _)); exact BK472.out) hg (Kd.R_away HO_9.out (fun _ hk => hk))); have n3_ := Aside0.mk (hb); have n4_ := Aside0.mk (ho); clear HO_6; clear HO_8; clear BK472; clear HB; clear HO_9; have HO_6 := n0_; have HO_8 := n1_; have BK472 := n2_; have HB := n3_; have HO478 := n4_; clear n0_ n1_ n2_ n3_ n4_; clear ho hb hg hat))
                   go_roundg k3
                   case measure => have := HK1.out; have := HJ15.out; have := HK3.out; omega
                   case rel => exact ⟨(y475), (y476), (wrap64 (x54_3 + 1)), (by first | rfl | (simp; done) | (simp [*]; done)), H', ⟨by have := HK1.out; have := HJ15.out; have := HK3.out; omega⟩, ⟨by (try simp only [hl6_1]); (with_reducible repeat (first | apply Kd.R_alloc | apply Kd.R_drewN | apply Kd.R_drew)); exact HO_6.out⟩, ⟨by (try simp only [hl6_1]); (with_reducible repeat (first | apply Kd.R_alloc | apply Kd.R_drewN | apply Kd.R_drew)); exact HO_8.out⟩, ⟨by (try simp only [hl6_1]); (with_reducible repeat (first | apply Kd.R_alloc | apply Kd.R_drewN | apply Kd.R_drew)); exact Kd.R_mono HO478.out (fun _ hk => trivial)⟩, ⟨by repeat (first | (with_reducible first | exact HB.out | apply below_alloc | apply pw_below_drewN | apply below_drew1 | refine below_set ?_ GE472.out) | exact HB.out)⟩⟩
                  ·rw [if_neg c34] at H
                   exact absurd H (by simp)
                 ·rw [if_neg c32] at H
                  exact absurd H (by simp)
                ·rw [if_neg c31] at H
                 have c31b0 : decide ((Int.tmod (rd l1 x54_3) 1000000001) < 0) = false := decide_eq_false c31
                 clear c31
                 by_cases c44 : x54_3 < (x8_3.length : Int)
                 ·rw [if_pos c44] at H
                  have c44b0 : decide (x54_3 < (x8_3.length : Int)) = true := decide_eq_true c44
                  clear c44
                  obtain ⟨y479, hy479⟩ : ∃ y_ : List Int, y_ = (x8_3.set (x54_3 : Int).toNat (Int.tmod (rd l1 x54_3) 1000000001)) := ⟨_, rfl⟩
                  replace H : (if x9_3.length < 8796093022208 then (cohousinglaw28_FlowSubmeters.l1 k3 l1 t460 x6_1 y479 (x9_3 ++ [(⟨Int.tmod (rd l1 x54_3) 1000000001, Int.tmod (rd l1 x54_3) 1000000001⟩ : S39)]) (x6_1.length : Int) (wrap64 (x54_3 + 1))) else (none)) = some r := by first | (rw [hy479]; with_reducible exact H) | (have H2_ := (Option.bind_some _ _).symm.trans H; rw [hy479]; with_reducible exact H2_) | (have H2_ := (Option.bind_some _ _).symm.trans H; with_reducible exact H2_) | with_reducible exact H | (rw [hy479]; exact H) | exact H
                  have Ny479 := Aside0.mk hy479
                  clear hy479
                  by_cases c46 : x9_3.length < 8796093022208
                  ·rw [if_pos c46] at H
                   have LMc46 := Aside0.mk c46
                   clear c46
                   obtain ⟨y480, hy480⟩ : ∃ y_ : List (S39), y_ = (x9_3 ++ [(⟨Int.tmod (rd l1 x54_3) 1000000001, Int.tmod (rd l1 x54_3) 1000000001⟩ : S39)]) := ⟨_, rfl⟩
                   replace H : (cohousinglaw28_FlowSubmeters.l1 k3 l1 t460 x6_1 y479 y480 (x6_1.length : Int) (wrap64 (x54_3 + 1))) = some r := by first | (rw [hy480]; with_reducible exact H) | (have H2_ := (Option.bind_some _ _).symm.trans H; rw [hy480]; with_reducible exact H2_) | (have H2_ := (Option.bind_some _ _).symm.trans H; with_reducible exact H2_) | with_reducible exact H | (rw [hy480]; exact H) | exact H
                   have Ny480 := Aside0.mk hy480
                   clear hy480
                   have H' := Aside0.mk H
                   clear H
                   go_wp2_with (first | ((with_reducible refine gate_dst (N := 11) rfl ?_); (try (refine gate_guard (by rfl) ?_; dsimp only)); refine box_event ?hg (N := 11) ?hd (cs := #[.int .i64 0, .int .i64 0]) (t := 39) ?hr ?_; (case hd => rfl); (case hg => rfl); (case hr => first | (go_simp; done) | (go_simp; rfl)); intro gb472 hg w47 hbox hb; have n0_ := Aside0.mk (Kd.R_below (by (with_reducible repeat (first | apply Kd.R_alloc | apply Kd.R_drewN | apply Kd.R_drew)); exact HO_6.out) hb); have n1_ := Aside0.mk (Kd.R_below (by (with_reducible repeat (first | apply Kd.R_alloc | apply Kd.R_drewN | apply Kd.R_drew)); exact HO_8.out) hb); have n2_ := Aside0.mk (Kd.R_below (Kd.R_elderB (by (with_reducible repeat (first | apply Kd.R_alloc | apply Kd.R_drewN | apply Kd.R_drew)); exact HO_9.out) gb472 (Nat.le_of_eq hg.symm)) hb); have n3_ := Aside0.mk (below_step (by repeat (first | (with_reducible first | exact HB.out | apply below_alloc | apply pw_below_drewN | apply below_drew1) | exact HB.out)) hb); have n4_ := Aside0.mk (hbox); have n5_ := Aside0.mk ((by rw [hg]; exact (below_size (by repeat (first | (with_reducible first | exact HB.out | apply below_alloc | apply pw_below_drewN | apply below_drew1) | exact HB.out))) : w.heap.size ≤ gb472)); have n6_ := Aside0.mk ((by rw [hg]; exact (below_size (by repeat (first | (with_reducible first | exact HB.out | apply below_alloc | apply pw_below_drewN | apply below_drew1) | exact HB.out))) : w.heap.size ≤ gb472)); clear HO_6; clear HO_8; clear HO_9; clear HB; have HO_6 := n0_; have HO_8 := n1_; have HO_9 := n2_; have HB := n3_; have BK472 := n4_; have GW472 := n5_; have GE472 := n6_; clear n0_ n1_ n2_ n3_ n4_ n5_ n6_; clear hb hbox hg; have hcz48_0 : w47.cell? ⟨gb472, 0, none⟩ = some (.int .i64 0) := (blk_cell BK472.out 0).trans rfl; have hcz48_1 : w47.cell? ⟨gb472, 1, none⟩ = some (.int .i64 0) := (blk_cell BK472.out 1).trans rfl; have hfz48_0 := blk_frozen BK472.out 0; have hfz48_1 := blk_frozen BK472.out 1) | ((with_reducible refine gate_callee (f := 24) rfl ?_); refine goesL_ (some 60) rfl rfl Try.func24 (by kernel_rfl) rfl #[.slice Ao9 x6_1.length co9, .int .i64 x54_3] rfl (by (try simp only [List.map_toArray, List.map_cons, List.map_nil]); first | done | rfl | (simp only [List.length_drop, List.length_take]; rfl)) ?_; (with_reducible refine (cohousingref28_Leaf.calls k3 _ _ x6_1 x54_3 true _ ?side1 ?side2 A27.out).mono ?_); (case side1 => refine (Kd.R_reads' (e := 44) (base := w.heap.size) (ok := fun k_ => True) (n := x6_1.length) (c := co9) ?_).2.2; exact (by (with_reducible repeat (first | apply Kd.R_alloc | apply Kd.R_drewN | apply Kd.R_drew)); exact (Kd.R_mono (Kd.R_far (p := ⟨gb472, 1, none⟩) (Kd.R_far (p := ⟨gb472, 0, none⟩) (Kd.R_types HO_6.out BK472.out (by decide)) (fun _ hk => hk.2) (.int .i64 0)) (fun _ hk => hk.2) (.int .i64 1000000000)) (fun _ h_ => h_.1)))); (case side2 => exact (Kd.R_reads' HO_6.out).2.1); rintro e w49 ⟨rfl, hb⟩; refine ⟨_, rfl, ?_⟩; have n0_ := Aside0.mk (Kd.R_below (by (with_reducible repeat (first | apply Kd.R_alloc | apply Kd.R_drewN | apply Kd.R_drew)); exact (Kd.R_mono (Kd.R_far (p := ⟨gb472, 1, none⟩) (Kd.R_far (p := ⟨gb472, 0, none⟩) (Kd.R_types HO_6.out BK472.out (by decide)) (fun _ hk => hk.2) (.int .i64 0)) (fun _ hk => hk.2) (.int .i64 1000000000)) (fun _ h_ => h_.1))) hb); have n1_ := Aside0.mk (Kd.R_below (by (with_reducible repeat (first | apply Kd.R_alloc | apply Kd.R_drewN | apply Kd.R_drew)); exact (Kd.R_mono (Kd.R_far (p := ⟨gb472, 1, none⟩) (Kd.R_far (p := ⟨gb472, 0, none⟩) (Kd.R_types HO_8.out BK472.out (by decide)) (fun _ hk => hk.2) (.int .i64 0)) (fun _ hk => hk.2) (.int .i64 1000000000)) (fun _ h_ => h_.1))) hb); have n2_ := Aside0.mk (Kd.R_below (by (with_reducible repeat (first | apply Kd.R_alloc | apply Kd.R_drewN | apply Kd.R_drew)); exact (Kd.R_mono (Kd.R_far (p := ⟨gb472, 1, none⟩) (Kd.R_far (p := ⟨gb472, 0, none⟩) (Kd.R_mono HO_9.out (fun k_ hk => (⟨hk, hk.2⟩ : _ ∧ k_ ≠ gb472))) (fun _ hk => hk.2) (.int .i64 0)) (fun _ hk => hk.2) (.int .i64 1000000000)) (fun _ h_ => h_.1))) hb); have n3_ := Aside0.mk (blk_below (g := gb472) (o := .cells #[.int .i64 0, .int .i64 1000000000] 39 (0, 0)) (by (with_reducible repeat (first | refine blk_drewN ?_ _ | refine blk_drew ?_ | refine blk_alloc ?_ _)); refine blk_put (cs := #[.int .i64 0, .int .i64 0]) ?_ 1 _ rfl; (with_reducible repeat (first | refine blk_drewN ?_ _ | refine blk_drew ?_ | refine blk_alloc ?_ _)); refine blk_put (cs := #[.int .i64 0, .int .i64 0]) ?_ 0 _ rfl; (with_reducible repeat (first | refine blk_drewN ?_ _ | refine blk_drew ?_ | refine blk_alloc ?_ _)); exact BK472.out) hb); have n4_ := Aside0.mk (below_step (by repeat (first | (with_reducible first | exact HB.out | apply below_alloc | apply pw_below_drewN | apply below_drew1 | refine below_set ?_ GE472.out) | exact HB.out)) hb); clear HO_6; clear HO_8; clear HO_9; clear BK472; clear HB; have HO_6 := n0_; have HO_8 := n1_; have HO_9 := n2_; have BK472 := n3_; have HB := n4_; clear n0_ n1_ n2_ n3_ n4_; (try clear hb); (try clear hb2); (try clear hk); (try clear hi); have p474 : 0 ≤ (x54_3 : Int) := of_decide_eq_true (by first | (with_reducible assumption) | assumption); have q474 : x54_3 < (l1.length : Int) := of_decide_eq_true (by first | (with_reducible assumption) | assumption); obtain ⟨ad474, e474, hx474_0⟩ := Kd.at_int HR1.out x54_3 p474 q474; cases e474; replace hx474_0 := (HB.out.cell (World.block_lt_of_cell? w _ hx474_0)).trans hx474_0; replace p474 := eq_true p474; replace q474 := eq_true q474; have hcz50_0 : w49.cell? ⟨gb472, 0, none⟩ = some (.int .i64 0) := (blk_cell BK472.out 0).trans rfl; have hcz50_1 : w49.cell? ⟨gb472, 1, none⟩ = some (.int .i64 1000000000) := (blk_cell BK472.out 1).trans rfl; have hfz50_0 := blk_frozen BK472.out 0; have hfz50_1 := blk_frozen BK472.out 1) | ((with_reducible refine gate_store (t := 39) (p := 11) rfl ?_); refine store_event (t := 39) (p := 11) (v := ?vo_w51) (w1 := ((w49.setCell ⟨gb472, 0, none⟩ (.int .i64 (Int.tmod (rd l1 x54_3) 1000000001))).setCell ⟨gb472, 1, none⟩ (.int .i64 (Int.tmod (rd l1 x54_3) 1000000001)))) ?hg ?ho ?hn ?hr ?_; (case ho => rfl); (case hg => rfl); (case hn => rfl); (case hr => first | (go_simp; done) | (go_simp; rfl)); intro w51 hw; have n0_ : Aside0 (Kd.R k44 44 w51 w.heap.size (fun _ => True) (.slice Ao9 x6_1.length co9) x6_1) := ⟨(by rw [hw]; exact (by (with_reducible repeat (first | apply Kd.R_alloc | apply Kd.R_drewN | apply Kd.R_drew)); exact Kd.R_mono (Kd.R_far (p := ⟨gb472, 1, none⟩) (Kd.R_far (p := ⟨gb472, 0, none⟩) (Kd.R_types HO_6.out BK472.out (by decide)) (fun _ hk => hk.2) (.int .i64 (Int.tmod (rd l1 x54_3) 1000000001))) (fun _ hk => hk.2) (.int .i64 (Int.tmod (rd l1 x54_3) 1000000001))) (fun _ hk => trivial)))⟩; have n1_ : Aside0 (Kd.R (Kd.int .i64) 3 w51 w.heap.size (fun _ => True) v470 x8_3) := ⟨(by rw [hw]; exact (by (with_reducible repeat (first | apply Kd.R_alloc | apply Kd.R_drewN | apply Kd.R_drew)); exact Kd.R_mono (Kd.R_far (p := ⟨gb472, 1, none⟩) (Kd.R_far (p := ⟨gb472, 0, none⟩) (Kd.R_types HO_8.out BK472.out (by decide)) (fun _ hk => hk.2) (.int .i64 (Int.tmod (rd l1 x54_3) 1000000001))) (fun _ hk => hk.2) (.int .i64 (Int.tmod (rd l1 x54_3) 1000000001))) (fun _ hk => trivial)))⟩; have n2_ : Aside0 (Kd.R k39 39 w51 w.heap.size (fun k_ => k_ ≠ gb472) u9 x9_3) := ⟨(by rw [hw]; exact (by (with_reducible repeat (first | apply Kd.R_alloc | apply Kd.R_drewN | apply Kd.R_drew)); exact Kd.R_mono (Kd.R_far (p := ⟨gb472, 1, none⟩) (Kd.R_far (p := ⟨gb472, 0, none⟩) (Kd.R_mono HO_9.out (fun k_ hk => (⟨hk, hk.2⟩ : _ ∧ k_ ≠ gb472))) (fun _ hk => hk.2) (.int .i64 (Int.tmod (rd l1 x54_3) 1000000001))) (fun _ hk => hk.2) (.int .i64 (Int.tmod (rd l1 x54_3) 1000000001))) (fun _ hk => hk.1.2)))⟩; have n3_ : Aside0 (w51.heap[gb472]? = some (.cells #[.int .i64 (Int.tmod (rd l1 x54_3) 1000000001), .int .i64 (Int.tmod (rd l1 x54_3) 1000000001)] 39 (0, 0))) := ⟨(by rw [hw]; exact (by (with_reducible repeat (first | refine blk_drewN ?_ _ | refine blk_drew ?_ | refine blk_alloc ?_ _)); refine blk_put (cs := #[.int .i64 (Int.tmod (rd l1 x54_3) 1000000001), .int .i64 1000000000]) ?_ 1 _ rfl; (with_reducible repeat (first | refine blk_drewN ?_ _ | refine blk_drew ?_ | refine blk_alloc ?_ _)); refine blk_put (cs := #[.int .i64 0, .int .i64 1000000000]) ?_ 0 _ rfl; (with_reducible repeat (first | refine blk_drewN ?_ _ | refine blk_drew ?_ | refine blk_alloc ?_ _)); exact BK472.out))⟩; have n4_ : Aside0 (Below w.heap.size w w51) := ⟨(by rw [hw]; exact (by repeat (first | (with_reducible first | exact HB.out | apply below_alloc | apply pw_below_drewN | apply below_drew1 | refine below_set ?_ GE472.out) | exact HB.out)))⟩; clear hw; clear HO_6; clear HO_8; clear HO_9; clear BK472; clear HB; have HO_6 := n0_; have HO_8 := n1_; have HO_9 := n2_; have BK472 := n3_; have HB := n4_; clear n0_ n1_ n2_ n3_ n4_; have p45 : 0 ≤ (x54_3 : Int) := of_decide_eq_true (by first | (with_reducible assumption) | assumption); have q45 : (x54_3 : Int) < ((x8_3.length : Int) : Int) := of_decide_eq_true (by first | (with_reducible assumption) | assumption); obtain ⟨go45, co45, eo45, gb45, gl45, cl45, HG45⟩ := Kd.R_form HO_8.out (by omega); (first | cases eo45 | (injection eo45 with ea_ en_ ec_; (first | subst ea_ | (injection ea_ with ea_; subst ea_)); subst ec_; clear en_)); have GB45 := Aside0.mk gb45; have GG45 := Aside0.mk HG45; clear gb45 gl45 HG45; obtain ⟨hx45_0, hf45_0⟩ := Kd.R_celln 0 HO_8.out (x54_3 : Int) p45 q45; replace p45 := eq_true p45; replace q45 := eq_true q45; obtain ⟨hy52_, hz52_⟩ := Kd.R_celln 0 HO_8.out (x54_3 : Int) (of_decide_eq_true (by first | (with_reducible assumption) | assumption)) (of_decide_eq_true (by first | (with_reducible assumption) | assumption)); have HP52 := Kd.R_putg HO_8.out (x54_3 : Int) (Int.tmod (rd l1 x54_3) 1000000001)) | ((with_reducible refine gate_store (t := 3) (p := 76) rfl ?_); refine store_event (t := 3) (p := 76) (v := ?vo_w53) (w1 := (w51.setCell ⟨go45, (x54_3 : Int).toNat, none⟩ (.int .i64 (Int.tmod (rd l1 x54_3) 1000000001)))) ?hg ?ho ?hn ?hr ?_; (case ho => rfl); (case hg => rfl); (case hn => rfl); (case hr => first | (go_simp; done) | (go_simp; rfl)); intro w53 hw; have hg : w51.grownBy w53 (some go45) := (by rw [hw]; exact HP52.2); have hp_ : Kd.R (Kd.int .i64) 3 w53 w.heap.size (fun _ => True) (.slice (some ⟨go45, 0, none⟩) x8_3.length co45) y479 := (by rw [hw, Ny479.out]; exact HP52.1); clear HP52; have n0_ := Aside0.mk (Kd.R_over' (v := (.slice (some ⟨go45, 0, none⟩) x8_3.length co45)) (by (with_reducible repeat (first | apply Kd.R_alloc | apply Kd.R_drewN | apply Kd.R_drew)); exact HO_6.out) (Kd.R_typed HO_8.out) (by decide) hg); have n1_ := Aside0.mk (hp_); have n2_ := Aside0.mk (Kd.R_over' (v := (.slice (some ⟨go45, 0, none⟩) x8_3.length co45)) (by (with_reducible repeat (first | apply Kd.R_alloc | apply Kd.R_drewN | apply Kd.R_drew)); exact HO_9.out) (Kd.R_typed HO_8.out) (by decide) hg); have n3_ := Aside0.mk (blk_grown (g := gb472) (o := .cells #[.int .i64 (Int.tmod (rd l1 x54_3) 1000000001), .int .i64 (Int.tmod (rd l1 x54_3) 1000000001)] 39 (0, 0)) (by (with_reducible repeat (first | refine blk_drewN ?_ _ | refine blk_drew ?_ | refine blk_alloc ?_ _)); exact BK472.out) hg (Kd.R_ne HO_8.out BK472.out (by decide))); have n4_ := Aside0.mk ((by rw [hw]; exact below_set (HB.out) GB45.out : Below w.heap.size w w53)); clear HO_6; clear HO_8; clear HO_9; clear BK472; clear HB; have HO_6 := n0_; have HO_8 := n1_; have HO_9 := n2_; have BK472 := n3_; have HB := n4_; clear n0_ n1_ n2_ n3_ n4_; clear hg hw hp_; have hcz54_0 : w53.cell? ⟨gb472, 0, none⟩ = some (.int .i64 (Int.tmod (rd l1 x54_3) 1000000001)) := (blk_cell BK472.out 0).trans rfl; have hcz54_1 : w53.cell? ⟨gb472, 1, none⟩ = some (.int .i64 (Int.tmod (rd l1 x54_3) 1000000001)) := (blk_cell BK472.out 1).trans rfl; have hfz54_0 := blk_frozen BK472.out 0; have hfz54_1 := blk_frozen BK472.out 1) | ((with_reducible refine gate_builtin (b := .append) (xs := #[.tmp 77, .tmp 79]) rfl ?_); (try (refine gate_guard (by rfl) ?_; dsimp only)); at_builtin; refine Kd.R_append k39 (w0 := w) w.heap.size rfl (.tmp 77) (.tmp 79) 23 39 (.agg #[(.int .i64 0), (.int .i64 0)]) 16 rfl Try.underlying23 info39 rfl (by decide) (by omega) u9 x9_3 (⟨Int.tmod (rd l1 x54_3) 1000000001, Int.tmod (rd l1 x54_3) 1000000001⟩ : S39) [.int .i64 (Int.tmod (rd l1 x54_3) 1000000001), .int .i64 (Int.tmod (rd l1 x54_3) 1000000001)] (fun k_ => k_ ≠ gb472) (fun _ => False) rfl rfl ?aP (fun _ hk => hk.elim) ?aF ?aO ?aB ?aS ?aL ?_; (case aP => exact k39_mkM _ _ _ (⟨Int.tmod (rd l1 x54_3) 1000000001, Int.tmod (rd l1 x54_3) 1000000001⟩ : S39)); (case aB => exact (by repeat (first | (with_reducible first | exact HB.out | apply below_alloc | apply pw_below_drewN | apply below_drew1 | refine below_set ?_ GE472.out) | exact HB.out))); (case aF => exact (fun k_ hk => Kd.freshB (g := gb472) (o := .cells #[.int .i64 (Int.tmod (rd l1 x54_3) 1000000001), .int .i64 (Int.tmod (rd l1 x54_3) 1000000001)] 39 (0, 0)) (by (with_reducible repeat (first | refine blk_drewN ?_ _ | refine blk_drew ?_ | refine blk_alloc ?_ _)); exact BK472.out) k_ hk)); (case aO => exact (by (with_reducible repeat (first | apply Kd.R_alloc | apply Kd.R_drewN | apply Kd.R_drew)); exact HO_9.out)); (case aS => exact (below_size (by repeat (first | (with_reducible first | exact HB.out | apply below_alloc | apply pw_below_drewN | apply below_drew1 | refine below_set ?_ GE472.out) | exact HB.out)))); (case aL => have := LMc46.out; omega); intro v481 w55 ho hb hg hat; rw [← Ny480.out] at ho; have n0_ := Aside0.mk (Kd.R_over' (by (with_reducible repeat (first | apply Kd.R_alloc | apply Kd.R_drewN | apply Kd.R_drew)); exact HO_6.out) (Kd.R_typed (by (with_reducible repeat (first | apply Kd.R_alloc | apply Kd.R_drewN | apply Kd.R_drew)); exact HO_9.out)) (by decide) hg); have n1_ := Aside0.mk (Kd.R_over' (by (with_reducible repeat (first | apply Kd.R_alloc | apply Kd.R_drewN | apply Kd.R_drew)); exact HO_8.out) (Kd.R_typed (by (with_reducible repeat (first | apply Kd.R_alloc | apply Kd.R_drewN | apply Kd.R_drew)); exact HO_9.out)) (by decide) hg); have n2_ := Aside0.mk (blk_grown (g := gb472) (o := .cells #[.int .i64 (Int.tmod (rd l1 x54_3) 1000000001), .int .i64 (Int.tmod (rd l1 x54_3) 1000000001)] 39 (0, 0)) (by (with_reducible repeat (first | refine blk_drewN ?_ _ | refine blk_drew ?_ | refine blk_alloc ?_ _)); exact BK472.out) hg (Kd.R_away HO_9.out (fun _ hk => hk))); have n3_ := Aside0.mk (hb); have n4_ := Aside0.mk (ho); clear HO_6; clear HO_8; clear BK472; clear HB; clear HO_9; have HO_6 := n0_; have HO_8 := n1_; have BK472 := n2_; have HB := n3_; have HO482 := n4_; clear n0_ n1_ n2_ n3_ n4_; clear ho hb hg hat))
                   go_roundg k3
                   case measure => have := HK1.out; have := HJ15.out; have := HK3.out; omega
                   case rel => exact ⟨(y479), (y480), (wrap64 (x54_3 + 1)), (by first | rfl | (simp; done) | (simp [*]; done)), H', ⟨by have := HK1.out; have := HJ15.out; have := HK3.out; omega⟩, ⟨by (try simp only [hl6_1]); (with_reducible repeat (first | apply Kd.R_alloc | apply Kd.R_drewN | apply Kd.R_drew)); exact HO_6.out⟩, ⟨by (try simp only [hl6_1]); (with_reducible repeat (first | apply Kd.R_alloc | apply Kd.R_drewN | apply Kd.R_drew)); exact HO_8.out⟩, ⟨by (try simp only [hl6_1]); (with_reducible repeat (first | apply Kd.R_alloc | apply Kd.R_drewN | apply Kd.R_drew)); exact Kd.R_mono HO482.out (fun _ hk => trivial)⟩, ⟨by repeat (first | (with_reducible first | exact HB.out | apply below_alloc | apply pw_below_drewN | apply below_drew1 | refine below_set ?_ GE472.out) | exact HB.out)⟩⟩
                  ·rw [if_neg c46] at H
                   exact absurd H (by simp)
                 ·rw [if_neg c44] at H
                  exact absurd H (by simp)
               ·rw [if_neg c30] at H
                exact absurd H (by simp)
              ·rw [if_neg c29] at H
               exact absurd H (by simp)
             ·replace c28 := Bool.eq_false_iff.mpr c28
              subst c28
              have H1 : (if x9_3.length < 8796093022208 then (cohousinglaw28_FlowSubmeters.l1 k3 l1 t460 x6_1 x8_3 (x9_3 ++ [(⟨0, 1000000000⟩ : S39)]) (x6_1.length : Int) (wrap64 (x54_3 + 1))) else (none)) = some r := by rw [if_neg (show ¬ (false = true) by decide)] at H; exact H
              clear H
              have H := H1
              clear H1
              by_cases c56 : x9_3.length < 8796093022208
              ·rw [if_pos c56] at H
               have LMc56 := Aside0.mk c56
               clear c56
               obtain ⟨y483, hy483⟩ : ∃ y_ : List (S39), y_ = (x9_3 ++ [(⟨0, 1000000000⟩ : S39)]) := ⟨_, rfl⟩
               replace H : (cohousinglaw28_FlowSubmeters.l1 k3 l1 t460 x6_1 x8_3 y483 (x6_1.length : Int) (wrap64 (x54_3 + 1))) = some r := by first | (rw [hy483]; with_reducible exact H) | (have H2_ := (Option.bind_some _ _).symm.trans H; rw [hy483]; with_reducible exact H2_) | (have H2_ := (Option.bind_some _ _).symm.trans H; with_reducible exact H2_) | with_reducible exact H | (rw [hy483]; exact H) | exact H
               have Ny483 := Aside0.mk hy483
               clear hy483
               have H' := Aside0.mk H
               clear H
               go_wp2_with (first | ((with_reducible refine gate_dst (N := 11) rfl ?_); (try (refine gate_guard (by rfl) ?_; dsimp only)); refine box_event ?hg (N := 11) ?hd (cs := #[.int .i64 0, .int .i64 0]) (t := 39) ?hr ?_; (case hd => rfl); (case hg => rfl); (case hr => first | (go_simp; done) | (go_simp; rfl)); intro gb472 hg w57 hbox hb; have n0_ := Aside0.mk (Kd.R_below (by (with_reducible repeat (first | apply Kd.R_alloc | apply Kd.R_drewN | apply Kd.R_drew)); exact HO_6.out) hb); have n1_ := Aside0.mk (Kd.R_below (by (with_reducible repeat (first | apply Kd.R_alloc | apply Kd.R_drewN | apply Kd.R_drew)); exact HO_8.out) hb); have n2_ := Aside0.mk (Kd.R_below (Kd.R_elderB (by (with_reducible repeat (first | apply Kd.R_alloc | apply Kd.R_drewN | apply Kd.R_drew)); exact HO_9.out) gb472 (Nat.le_of_eq hg.symm)) hb); have n3_ := Aside0.mk (below_step (by repeat (first | (with_reducible first | exact HB.out | apply below_alloc | apply pw_below_drewN | apply below_drew1) | exact HB.out)) hb); have n4_ := Aside0.mk (hbox); have n5_ := Aside0.mk ((by rw [hg]; exact (below_size (by repeat (first | (with_reducible first | exact HB.out | apply below_alloc | apply pw_below_drewN | apply below_drew1) | exact HB.out))) : w.heap.size ≤ gb472)); have n6_ := Aside0.mk ((by rw [hg]; exact (below_size (by repeat (first | (with_reducible first | exact HB.out | apply below_alloc | apply pw_below_drewN | apply below_drew1) | exact HB.out))) : w.heap.size ≤ gb472)); clear HO_6; clear HO_8; clear HO_9; clear HB; have HO_6 := n0_; have HO_8 := n1_; have HO_9 := n2_; have HB := n3_; have BK472 := n4_; have GW472 := n5_; have GE472 := n6_; clear n0_ n1_ n2_ n3_ n4_ n5_ n6_; clear hb hbox hg; have hcz58_0 : w57.cell? ⟨gb472, 0, none⟩ = some (.int .i64 0) := (blk_cell BK472.out 0).trans rfl; have hcz58_1 : w57.cell? ⟨gb472, 1, none⟩ = some (.int .i64 0) := (blk_cell BK472.out 1).trans rfl; have hfz58_0 := blk_frozen BK472.out 0; have hfz58_1 := blk_frozen BK472.out 1) | ((with_reducible refine gate_callee (f := 24) rfl ?_); refine goesL_ (some 60) rfl rfl Try.func24 (by kernel_rfl) rfl #[.slice Ao9 x6_1.length co9, .int .i64 x54_3] rfl (by (try simp only [List.map_toArray, List.map_cons, List.map_nil]); first | done | rfl | (simp only [List.length_drop, List.length_take]; rfl)) ?_; (with_reducible refine (cohousingref28_Leaf.calls k3 _ _ x6_1 x54_3 false _ ?side1 ?side2 A27.out).mono ?_); (case side1 => refine (Kd.R_reads' (e := 44) (base := w.heap.size) (ok := fun k_ => True) (n := x6_1.length) (c := co9) ?_).2.2; exact (by (with_reducible repeat (first | apply Kd.R_alloc | apply Kd.R_drewN | apply Kd.R_drew)); exact (Kd.R_mono (Kd.R_far (p := ⟨gb472, 1, none⟩) (Kd.R_far (p := ⟨gb472, 0, none⟩) (Kd.R_types HO_6.out BK472.out (by decide)) (fun _ hk => hk.2) (.int .i64 0)) (fun _ hk => hk.2) (.int .i64 1000000000)) (fun _ h_ => h_.1)))); (case side2 => exact (Kd.R_reads' HO_6.out).2.1); rintro e w59 ⟨rfl, hb⟩; refine ⟨_, rfl, ?_⟩; have n0_ := Aside0.mk (Kd.R_below (by (with_reducible repeat (first | apply Kd.R_alloc | apply Kd.R_drewN | apply Kd.R_drew)); exact (Kd.R_mono (Kd.R_far (p := ⟨gb472, 1, none⟩) (Kd.R_far (p := ⟨gb472, 0, none⟩) (Kd.R_types HO_6.out BK472.out (by decide)) (fun _ hk => hk.2) (.int .i64 0)) (fun _ hk => hk.2) (.int .i64 1000000000)) (fun _ h_ => h_.1))) hb); have n1_ := Aside0.mk (Kd.R_below (by (with_reducible repeat (first | apply Kd.R_alloc | apply Kd.R_drewN | apply Kd.R_drew)); exact (Kd.R_mono (Kd.R_far (p := ⟨gb472, 1, none⟩) (Kd.R_far (p := ⟨gb472, 0, none⟩) (Kd.R_types HO_8.out BK472.out (by decide)) (fun _ hk => hk.2) (.int .i64 0)) (fun _ hk => hk.2) (.int .i64 1000000000)) (fun _ h_ => h_.1))) hb); have n2_ := Aside0.mk (Kd.R_below (by (with_reducible repeat (first | apply Kd.R_alloc | apply Kd.R_drewN | apply Kd.R_drew)); exact (Kd.R_mono (Kd.R_far (p := ⟨gb472, 1, none⟩) (Kd.R_far (p := ⟨gb472, 0, none⟩) (Kd.R_mono HO_9.out (fun k_ hk => (⟨hk, hk.2⟩ : _ ∧ k_ ≠ gb472))) (fun _ hk => hk.2) (.int .i64 0)) (fun _ hk => hk.2) (.int .i64 1000000000)) (fun _ h_ => h_.1))) hb); have n3_ := Aside0.mk (blk_below (g := gb472) (o := .cells #[.int .i64 0, .int .i64 1000000000] 39 (0, 0)) (by (with_reducible repeat (first | refine blk_drewN ?_ _ | refine blk_drew ?_ | refine blk_alloc ?_ _)); refine blk_put (cs := #[.int .i64 0, .int .i64 0]) ?_ 1 _ rfl; (with_reducible repeat (first | refine blk_drewN ?_ _ | refine blk_drew ?_ | refine blk_alloc ?_ _)); refine blk_put (cs := #[.int .i64 0, .int .i64 0]) ?_ 0 _ rfl; (with_reducible repeat (first | refine blk_drewN ?_ _ | refine blk_drew ?_ | refine blk_alloc ?_ _)); exact BK472.out) hb); have n4_ := Aside0.mk (below_step (by repeat (first | (with_reducible first | exact HB.out | apply below_alloc | apply pw_below_drewN | apply below_drew1 | refine below_set ?_ GE472.out) | exact HB.out)) hb); clear HO_6; clear HO_8; clear HO_9; clear BK472; clear HB; have HO_6 := n0_; have HO_8 := n1_; have HO_9 := n2_; have BK472 := n3_; have HB := n4_; clear n0_ n1_ n2_ n3_ n4_; (try clear hb); (try clear hb2); (try clear hk); (try clear hi); have hcz60_0 : w59.cell? ⟨gb472, 0, none⟩ = some (.int .i64 0) := (blk_cell BK472.out 0).trans rfl; have hcz60_1 : w59.cell? ⟨gb472, 1, none⟩ = some (.int .i64 1000000000) := (blk_cell BK472.out 1).trans rfl; have hfz60_0 := blk_frozen BK472.out 0; have hfz60_1 := blk_frozen BK472.out 1) | ((with_reducible refine gate_builtin (b := .append) (xs := #[.tmp 77, .tmp 79]) rfl ?_); (try (refine gate_guard (by rfl) ?_; dsimp only)); at_builtin; refine Kd.R_append k39 (w0 := w) w.heap.size rfl (.tmp 77) (.tmp 79) 23 39 (.agg #[(.int .i64 0), (.int .i64 0)]) 16 rfl Try.underlying23 info39 rfl (by decide) (by omega) u9 x9_3 (⟨0, 1000000000⟩ : S39) [.int .i64 0, .int .i64 1000000000] (fun k_ => k_ ≠ gb472) (fun _ => False) rfl rfl ?aP (fun _ hk => hk.elim) ?aF ?aO ?aB ?aS ?aL ?_; (case aP => exact k39_mkM _ _ _ (⟨0, 1000000000⟩ : S39)); (case aB => exact (by repeat (first | (with_reducible first | exact HB.out | apply below_alloc | apply pw_below_drewN | apply below_drew1 | refine below_set ?_ GE472.out) | exact HB.out))); (case aF => exact (fun k_ hk => Kd.freshB (g := gb472) (o := .cells #[.int .i64 0, .int .i64 1000000000] 39 (0, 0)) (by (with_reducible repeat (first | refine blk_drewN ?_ _ | refine blk_drew ?_ | refine blk_alloc ?_ _)); exact BK472.out) k_ hk)); (case aO => exact (by (with_reducible repeat (first | apply Kd.R_alloc | apply Kd.R_drewN | apply Kd.R_drew)); exact Kd.R_mono HO_9.out (fun _ hk => hk.2))); (case aS => exact (below_size (by repeat (first | (with_reducible first | exact HB.out | apply below_alloc | apply pw_below_drewN | apply below_drew1 | refine below_set ?_ GE472.out) | exact HB.out)))); (case aL => have := LMc56.out; omega); intro v484 w61 ho hb hg hat; rw [← Ny483.out] at ho; have n0_ := Aside0.mk (Kd.R_over' (by (with_reducible repeat (first | apply Kd.R_alloc | apply Kd.R_drewN | apply Kd.R_drew)); exact HO_6.out) (Kd.R_typed (by (with_reducible repeat (first | apply Kd.R_alloc | apply Kd.R_drewN | apply Kd.R_drew)); exact HO_9.out)) (by decide) hg); have n1_ := Aside0.mk (Kd.R_over' (by (with_reducible repeat (first | apply Kd.R_alloc | apply Kd.R_drewN | apply Kd.R_drew)); exact HO_8.out) (Kd.R_typed (by (with_reducible repeat (first | apply Kd.R_alloc | apply Kd.R_drewN | apply Kd.R_drew)); exact HO_9.out)) (by decide) hg); have n2_ := Aside0.mk (blk_grown (g := gb472) (o := .cells #[.int .i64 0, .int .i64 1000000000] 39 (0, 0)) (by (with_reducible repeat (first | refine blk_drewN ?_ _ | refine blk_drew ?_ | refine blk_alloc ?_ _)); exact BK472.out) hg (Kd.R_away HO_9.out (fun _ hk => hk.2))); have n3_ := Aside0.mk (hb); have n4_ := Aside0.mk (ho); clear HO_6; clear HO_8; clear BK472; clear HB; clear HO_9; have HO_6 := n0_; have HO_8 := n1_; have BK472 := n2_; have HB := n3_; have HO485 := n4_; clear n0_ n1_ n2_ n3_ n4_; clear ho hb hg hat))
               go_roundg k3
               case measure => have := HK1.out; have := HJ15.out; have := HK3.out; omega
               case rel => exact ⟨(x8_3), (y483), (wrap64 (x54_3 + 1)), (by first | rfl | (simp; done) | (simp [*]; done)), H', ⟨by have := HK1.out; have := HJ15.out; have := HK3.out; omega⟩, ⟨by (try simp only [hl6_1]); (with_reducible repeat (first | apply Kd.R_alloc | apply Kd.R_drewN | apply Kd.R_drew)); exact HO_6.out⟩, ⟨by (try simp only [hl6_1]); (with_reducible repeat (first | apply Kd.R_alloc | apply Kd.R_drewN | apply Kd.R_drew)); exact HO_8.out⟩, ⟨by (try simp only [hl6_1]); (with_reducible repeat (first | apply Kd.R_alloc | apply Kd.R_drewN | apply Kd.R_drew)); exact Kd.R_mono HO485.out (fun _ hk => trivial)⟩, ⟨by repeat (first | (with_reducible first | exact HB.out | apply below_alloc | apply pw_below_drewN | apply below_drew1 | refine below_set ?_ GE472.out) | exact HB.out)⟩⟩
              ·rw [if_neg c56] at H
               exact absurd H (by simp)
            ·rw [if_neg c26] at H
             have c26b0 : decide (x54_3 < (x6_1.length : Int)) = false := decide_eq_false c26
             clear c26
             have H' := Aside0.mk H
             clear H
             go_wp2
             go_loopg [13, 14] k3 (fun kq v13 v14 w' => ∃ (x8_4 : List Int) (x13_4 : Int) (x14_4 : Int), v13 = .int .i64 x13_4 ∧ v14 = .int .i64 x14_4 ∧ Aside0 (cohousinglaw28_FlowSubmeters.l2 kq t460 x6_1 x8_4 x9_3 x13_4 x14_4 = some r) ∧ Aside0 (kq ≤ k3) ∧ Aside0 (Kd.R k44 44 w' w.heap.size (fun _ => True) (.slice Ao9 x6_1.length co9) x6_1) ∧ Aside0 (Kd.R (Kd.int .i64) 3 w' w.heap.size (fun _ => True) v470 x8_4) ∧ Aside0 (Kd.R k39 39 w' w.heap.size (fun _ => True) u9 x9_3) ∧ Aside0 (Below w.heap.size w w'))
             case atStart => exact ⟨(x8_3), (0), (wrap64 ((x6_1.length : Int) - 1)), (by first | rfl | (simp; done) | (simp [*]; done)), (by first | rfl | (simp; done) | (simp [*]; done)), H', ⟨Nat.le_refl _⟩, ⟨by (try simp only [hl6_1]); (with_reducible repeat (first | apply Kd.R_alloc | apply Kd.R_drewN | apply Kd.R_drew)); exact HO_6.out⟩, ⟨by (try simp only [hl6_1]); (with_reducible repeat (first | apply Kd.R_alloc | apply Kd.R_drewN | apply Kd.R_drew)); exact HO_8.out⟩, ⟨by (try simp only [hl6_1]); (with_reducible repeat (first | apply Kd.R_alloc | apply Kd.R_drewN | apply Kd.R_drew)); exact HO_9.out⟩, ⟨by repeat (first | (with_reducible first | exact HB.out | apply below_alloc | apply pw_below_drewN | apply below_drew1) | exact HB.out)⟩⟩
             case round =>
              clear H'
              try clear c1
              try clear p1
              try clear q1
              try clear hx1
              try clear c2
              try clear p2
              try clear c3
              try clear p3
              try clear q3
              try clear hx3
              try clear hf3
              try clear c4
              try clear p4
              try clear q4
              try clear hx4
              try clear hf4
              try clear c5
              try clear p6
              try clear c9
              try clear c10
              try clear c10b0
              try clear c11
              try clear c11b0
              try clear c12
              try clear c12b0
              try clear c13
              try clear p13
              try clear q13
              try clear hx13
              try clear hf13
              try clear c14
              try clear hx14
              try clear hf14
              try clear c17
              try clear c17b0
              try clear c17b1
              try clear c18
              try clear c18b0
              try clear c18b1
              try clear c21
              try clear c22
              try clear c22b0
              try clear c22b1
              try clear c23
              try clear c23b0
              try clear c23b1
              try clear c24
              try clear c26
              try clear c26b0
              try clear c28
              try clear c29
              try clear c29b0
              try clear c30
              try clear c30b0
              try clear c31
              try clear c31b0
              try clear c32
              try clear c32b0
              try clear p33
              try clear q33
              try clear hx33
              try clear hf33
              try clear c34
              try clear c44
              try clear c44b0
              try clear p45
              try clear q45
              try clear hx45
              try clear hf45
              try clear c46
              try clear p47
              try clear q47
              try clear hx47
              try clear c56
              try clear hcz36_0
              try clear hcz36_1
              try clear hcz38_0
              try clear hcz38_1
              try clear hcz42_0
              try clear hcz42_1
              try clear hcz48_0
              try clear hcz48_1
              try clear hcz50_0
              try clear hcz50_1
              try clear hcz54_0
              try clear hcz54_1
              try clear hcz58_0
              try clear hcz58_1
              try clear hcz60_0
              try clear hcz60_1
              try clear hfz36_0
              try clear hfz36_1
              try clear hfz38_0
              try clear hfz38_1
              try clear hfz42_0
              try clear hfz42_1
              try clear hfz48_0
              try clear hfz48_1
              try clear hfz50_0
              try clear hfz50_1
              try clear hfz54_0
              try clear hfz54_1
              try clear hfz58_0
              try clear hfz58_1
              try clear hfz60_0
              try clear hfz60_1
              try clear hx13_0
              try clear hx13_1
              try clear hx13_2
              try clear hx14_2
              try clear hx33_0
              try clear hx45_0
              try clear hx474_0
              try clear p1
              try clear p13
              try clear p2
              try clear p33
              try clear p45
              try clear p474
              try clear p6
              try clear q1
              try clear q13
              try clear q33
              try clear q45
              try clear q474
              obtain ⟨x8_4, x13_4, x14_4, rfl, rfl, HA, HK4, HO_6, HO_8, HO_9, HB⟩ := hrel
              cases gk with
              | zero => exact absurd HA.out (by simp [cohousinglaw28_FlowSubmeters.l2])
              | succ k4 =>
               have H := HA.out
               clear HA
               simp only [cohousinglaw28_FlowSubmeters.l2] at H
               by_cases c62 : x14_4 ≥ 0
               ·rw [if_pos c62] at H
                have c62b0 : decide (0 ≤ x14_4) = true := decide_eq_true c62
                clear c62
                by_cases c63 : 0 ≤ x14_4
                ·rw [if_pos c63] at H
                 have c63b0 : decide (0 ≤ x14_4) = true := decide_eq_true c63
                 clear c63
                 by_cases c64 : x14_4 < (x8_4.length : Int)
                 ·rw [if_pos c64] at H
                  have c64b0 : decide (x14_4 < (x8_4.length : Int)) = true := decide_eq_true c64
                  clear c64
                  obtain ⟨ji65, hji65⟩ : ∃ j_ : Int, (mx x13_4 (rd x8_4 x14_4)) = j_ := ⟨_, rfl⟩
                  replace H : (cohousinglaw28_FlowSubmeters.l3 k4 t460 x6_1 x8_4 x9_3 ji65 x14_4 x14_4 0) = some r := by first | (rw [hji65] at H; exact H) | (simp only [hji65] at H ⊢; exact H)
                  have hji65_ : (if x13_4 < (rd x8_4 x14_4) then (rd x8_4 x14_4) else x13_4) = ji65 := hji65
                  have H' := Aside0.mk H
                  clear H
                  obtain ⟨Ao66, co66, eo66⟩ := Kd.R_slice HO_8.out
                  subst eo66
                  have p486 : 0 ≤ (x14_4 : Int) := of_decide_eq_true (by first | (with_reducible assumption) | assumption)
                  have q486 : x14_4 < (x8_4.length : Int) := of_decide_eq_true (by first | (with_reducible assumption) | assumption)
                  obtain ⟨ad486, e486, hx486_0⟩ := Kd.at_int (Kd.R_reads' HO_8.out).2.2 x14_4 p486 q486
                  cases e486
                  replace p486 := eq_true p486
                  replace q486 := eq_true q486
                  go_wp2
                  go_loopg [96] k4 (fun kq v96 w' => ∃ (x8_5 : List Int) (x96_5 : Int), v96 = .int .i64 x96_5 ∧ Aside0 (cohousinglaw28_FlowSubmeters.l3 kq t460 x6_1 x8_5 x9_3 ji65 x14_4 x14_4 x96_5 = some r) ∧ Aside0 (kq ≤ k4) ∧ Aside0 (Kd.R k44 44 w' w.heap.size (fun _ => True) (.slice Ao9 x6_1.length co9) x6_1) ∧ Aside0 (Kd.R (Kd.int .i64) 3 w' w.heap.size (fun _ => True) (.slice (some ad486) x8_4.length co66) x8_5) ∧ Aside0 (Kd.R k39 39 w' w.heap.size (fun _ => True) u9 x9_3) ∧ Aside0 (Below w.heap.size w w'))
                  case atStart => exact ⟨(x8_4), (0), (by first | rfl | (simp; done) | (simp [*]; done)), H', ⟨Nat.le_refl _⟩, ⟨by (try simp only [hl6_1]); (with_reducible repeat (first | apply Kd.R_alloc | apply Kd.R_drewN | apply Kd.R_drew)); exact HO_6.out⟩, ⟨by (try simp only [hl6_1]); (with_reducible repeat (first | apply Kd.R_alloc | apply Kd.R_drewN | apply Kd.R_drew)); exact HO_8.out⟩, ⟨by (try simp only [hl6_1]); (with_reducible repeat (first | apply Kd.R_alloc | apply Kd.R_drewN | apply Kd.R_drew)); exact HO_9.out⟩, ⟨by repeat (first | (with_reducible first | exact HB.out | apply below_alloc | apply pw_below_drewN | apply below_drew1) | exact HB.out)⟩⟩
                  case round =>
                   clear H'
                   try clear c1
                   try clear p1
                   try clear q1
                   try clear hx1
                   try clear c2
                   try clear p2
                   try clear c3
                   try clear p3
                   try clear q3
                   try clear hx3
                   try clear hf3
                   try clear c4
                   try clear p4
                   try clear q4
                   try clear hx4
                   try clear hf4
                   try clear c5
                   try clear c6
                   try clear p6
                   try clear c9
                   try clear c10
                   try clear c10b0
                   try clear c11
                   try clear c11b0
                   try clear c12
                   try clear c12b0
                   try clear c13
                   try clear p13
                   try clear q13
                   try clear hx13
                   try clear hf13
                   try clear c14
                   try clear hx14
                   try clear hf14
                   try clear c17
                   try clear c17b0
                   try clear c17b1
                   try clear c18
                   try clear c18b0
                   try clear c18b1
                   try clear c21
                   try clear c22
                   try clear c22b0
                   try clear c22b1
                   try clear c23
                   try clear c23b0
                   try clear c23b1
                   try clear c24
                   try clear c26
                   try clear c26b0
                   try clear c28
                   try clear c29
                   try clear c29b0
                   try clear c30
                   try clear c30b0
                   try clear c31
                   try clear c31b0
                   try clear c32
                   try clear c32b0
                   try clear p33
                   try clear q33
                   try clear hx33
                   try clear hf33
                   try clear c34
                   try clear c44
                   try clear c44b0
                   try clear p45
                   try clear q45
                   try clear hx45
                   try clear hf45
                   try clear c46
                   try clear p47
                   try clear q47
                   try clear hx47
                   try clear p48
                   try clear q48
                   try clear hx48
                   try clear c56
                   try clear c62
                   try clear c62b0
                   try clear c63
                   try clear c63b0
                   try clear c64
                   try clear c64b0
                   try clear p64
                   try clear hcz36_0
                   try clear hcz36_1
                   try clear hcz38_0
                   try clear hcz38_1
                   try clear hcz42_0
                   try clear hcz42_1
                   try clear hcz48_0
                   try clear hcz48_1
                   try clear hcz50_0
                   try clear hcz50_1
                   try clear hcz54_0
                   try clear hcz54_1
                   try clear hcz58_0
                   try clear hcz58_1
                   try clear hcz60_0
                   try clear hcz60_1
                   try clear hfz36_0
                   try clear hfz36_1
                   try clear hfz38_0
                   try clear hfz38_1
                   try clear hfz42_0
                   try clear hfz42_1
                   try clear hfz48_0
                   try clear hfz48_1
                   try clear hfz50_0
                   try clear hfz50_1
                   try clear hfz54_0
                   try clear hfz54_1
                   try clear hfz58_0
                   try clear hfz58_1
                   try clear hfz60_0
                   try clear hfz60_1
                   try clear hx13_0
                   try clear hx13_1
                   try clear hx13_2
                   try clear hx14_2
                   try clear hx33_0
                   try clear hx45_0
                   try clear hx474_0
                   try clear hx486_0
                   try clear p1
                   try clear p13
                   try clear p2
                   try clear p3
                   try clear p33
                   try clear p4
                   try clear p45
                   try clear p47
                   try clear p474
                   try clear p486
                   try clear p6
                   try clear q1
                   try clear q13
                   try clear q3
                   try clear q33
                   try clear q4
                   try clear q45
                   try clear q47
                   try clear q474
                   try clear q486
                   obtain ⟨x8_5, x96_5, rfl, HA, HK5, HO_6, HO_8, HO_9, HB⟩ := hrel
                   have hl8_5 := (Kd.R_reads' HO_8.out).1
                   rw [hl8_5] at HO_8
                   (try simp only [hl8_5])
                   (try simp only [hl8_5] at HO_6)
                   (try simp only [hl8_5] at HO_9)
                   cases gk with
                   | zero => exact absurd HA.out (by simp [cohousinglaw28_FlowSubmeters.l3])
                   | succ k5 =>
                    have H := HA.out
                    clear HA
                    simp only [cohousinglaw28_FlowSubmeters.l3] at H
                    by_cases c67 : x96_5 < x14_4
                    ·rw [if_pos c67] at H
                     have c67b0 : decide (x96_5 < x14_4) = true := decide_eq_true c67
                     clear c67
                     by_cases c68 : 0 ≤ x96_5
                     ·rw [if_pos c68] at H
                      have c68b0 : decide (0 ≤ x96_5) = true := decide_eq_true c68
                      clear c68
                      by_cases c69 : x96_5 < (x6_1.length : Int)
                      ·rw [if_pos c69] at H
                       have c69b0 : decide (x96_5 < (x6_1.length : Int)) = true := decide_eq_true c69
                       clear c69
                       by_cases c70 : 0 ≤ x14_4
                       ·rw [if_pos c70] at H
                        have c70b0 : decide (0 ≤ x14_4) = true := decide_eq_true c70
                        clear c70
                        by_cases c71 : x14_4 < (x6_1.length : Int)
                        ·rw [if_pos c71] at H
                         have c71b0 : decide (x14_4 < (x6_1.length : Int)) = true := decide_eq_true c71
                         clear c71
                         by_cases c72 : ((rd_T44 x6_1 x96_5).f0) = ((rd_T44 x6_1 x14_4).f1)
                         ·rw [if_pos c72] at H
                          have c72b0 : (((rd_T44 x6_1 x96_5).f0) == ((rd_T44 x6_1 x14_4).f1)) = true := beq_iff_eq.mpr c72
                          have c72b1 : (((rd_T44 x6_1 x96_5).f0) != ((rd_T44 x6_1 x14_4).f1)) = false := bne_eq_false_iff_eq.mpr c72
                          clear c72
                          by_cases c73 : x96_5 < (x8_5.length : Int)
                          ·rw [if_pos c73] at H
                           have c73b0 : decide (x96_5 < (x8_5.length : Int)) = true := decide_eq_true c73
                           clear c73
                           by_cases c74 : x14_4 < (x8_5.length : Int)
                           ·rw [if_pos c74] at H
                            have c74b0 : decide (x14_4 < (x8_5.length : Int)) = true := decide_eq_true c74
                            clear c74
                            obtain ⟨y491, hy491⟩ : ∃ y_ : List Int, y_ = (x8_5.set (x96_5 : Int).toNat (wrap64 ((rd x8_5 x96_5) + (rd x8_5 x14_4)))) := ⟨_, rfl⟩
                            replace H : (cohousinglaw28_FlowSubmeters.l3 k5 t460 x6_1 y491 x9_3 ji65 x14_4 x14_4 (wrap64 (x96_5 + 1))) = some r := by first | (rw [hy491]; with_reducible exact H) | (have H2_ := (Option.bind_some _ _).symm.trans H; rw [hy491]; with_reducible exact H2_) | (have H2_ := (Option.bind_some _ _).symm.trans H; with_reducible exact H2_) | with_reducible exact H | (rw [hy491]; exact H) | exact H
                            have Ny491 := Aside0.mk hy491
                            clear hy491
                            have H' := Aside0.mk H
                            clear H
                            try go_wp2
                            have n0_ := Aside0.mk (Kd.R_drew HO_6.out)
                            have n1_ := Aside0.mk (Kd.R_drew HO_8.out)
                            have n2_ := Aside0.mk (Kd.R_drew HO_9.out)
                            have n3_ := Aside0.mk (below_drew1 HB.out)
                            clear HO_6
                            clear HO_8
                            clear HO_9
                            clear HB
                            have HO_6 := n0_
                            have HO_8 := n1_
                            have HO_9 := n2_
                            have HB := n3_
                            clear n0_ n1_ n2_ n3_
                            have p487 : 0 ≤ (x96_5 : Int) := of_decide_eq_true (by first | (with_reducible assumption) | assumption)
                            have q487 : x96_5 < (x6_1.length : Int) := of_decide_eq_true (by first | (with_reducible assumption) | assumption)
                            obtain ⟨ad487, e487, hx487_0, hx487_1, hx487_2⟩ := at_T44 (Kd.R_reads' HO_6.out).2.2 x96_5 p487 q487
                            cases e487
                            replace p487 := eq_true p487
                            replace q487 := eq_true q487
                            have p488 : 0 ≤ (x14_4 : Int) := of_decide_eq_true (by first | (with_reducible assumption) | assumption)
                            have q488 : x14_4 < (x6_1.length : Int) := of_decide_eq_true (by first | (with_reducible assumption) | assumption)
                            obtain ⟨ad488, e488, hx488_0, hx488_1, hx488_2⟩ := at_T44 (Kd.R_reads' HO_6.out).2.2 x14_4 p488 q488
                            obtain rfl : ad487 = ad488 := (by injection e488)
                            replace p488 := eq_true p488
                            replace q488 := eq_true q488
                            refine start_ (n := 11) (S := fun w' => w'.cell? (ad487.add ((x96_5).toNat * 3)) = some (.int .i64 ((rd_T44 x6_1 x96_5).f0)) ∧ w'.cell? ⟨(ad487.add ((x96_5).toNat * 3)).block, (ad487.add ((x96_5).toNat * 3)).off + 1, none⟩ = some (.int .i64 ((rd_T44 x6_1 x96_5).f1)) ∧ w'.cell? ⟨(ad487.add ((x96_5).toNat * 3)).block, (ad487.add ((x96_5).toNat * 3)).off + 2, none⟩ = some (.int .i64 ((rd_T44 x6_1 x96_5).f2)) ∧ w'.cell? (ad487.add ((x14_4).toNat * 3)) = some (.int .i64 ((rd_T44 x6_1 x14_4).f0)) ∧ w'.cell? ⟨(ad487.add ((x14_4).toNat * 3)).block, (ad487.add ((x14_4).toNat * 3)).off + 1, none⟩ = some (.int .i64 ((rd_T44 x6_1 x14_4).f1)) ∧ w'.cell? ⟨(ad487.add ((x14_4).toNat * 3)).block, (ad487.add ((x14_4).toNat * 3)).off + 2, none⟩ = some (.int .i64 ((rd_T44 x6_1 x14_4).f2))) (ds := []) #[n_, n_, n_, n_, n_, n_, n_, n_, n_, n_, n_] (by kernel_rfl) rfl rfl ⟨hx487_0, hx487_1, hx487_2, hx488_0, hx488_1, hx488_2⟩ (fun hHeld => ?_); refine with_tabW cohousinglaw28_FlowSubmeters.tab31 cohousinglaw28_FlowSubmeters.bits31 (fun HT_ HW_ => ?_)
                            generalize wr.drew = w76 at HO_6 HO_8 HO_9 HB hx487_0 hx487_1 hx487_2 hx488_0 hx488_1 hx488_2 hHeld ⊢
                            refine pure_ (i := 0) (N := some 99) (v := ?_) (a' := ?_) #[y_, n_, n_, n_, n_, n_, n_, n_, n_, n_, n_] rfl rfl (any_of HT_.out (by kernel_rfl)) (fun _ _ _ h => h) (Or.inl ⟨by rfl, ?_⟩) ?_ ?_
                            rotate_left
                            ·intro w'
                             go_simp
                             with_reducible rfl
                            rotate_left
                            ·simp only [Act.put, sI_, s0_, sS_, i64_w, i32_w]
                             rfl
                            refine pure_ (i := 1) (N := some 100) (v := ?_) (a' := ?_) #[y_, y_, n_, n_, n_, n_, n_, n_, n_, n_, n_] rfl rfl (any_of HT_.out (by kernel_rfl)) (fun _ _ _ h => h) (Or.inl ⟨by rfl, ?_⟩) ?_ ?_
                            rotate_left
                            ·intro w'
                             go_simp
                             with_reducible rfl
                            rotate_left
                            ·simp only [Act.put, sI_, s0_, sS_, i64_w, i32_w]
                             rfl
                            refine pure_ (i := 2) (N := some 101) (v := ?_) (a' := ?_) #[y_, y_, y_, n_, n_, n_, n_, n_, n_, n_, n_] rfl rfl (any_of HT_.out (by kernel_rfl)) (fun _ _ _ h => h) (Or.inl ⟨by rfl, ?_⟩) ?_ ?_
                            rotate_left
                            ·intro w'
                             go_simp
                             with_reducible rfl
                            rotate_left
                            ·simp only [Act.put, sI_, s0_, sS_, i64_w, i32_w]
                             rfl
                            refine pure_ (i := 3) (N := some 102) (v := ?_) (a' := ?_) #[y_, y_, y_, y_, n_, n_, n_, n_, n_, n_, n_] rfl rfl (any_of HT_.out (by kernel_rfl)) (fun _ _ _ h => h) (Or.inl ⟨by rfl, ?_⟩) ?_ ?_
                            rotate_left
                            ·intro w'
                             go_simp
                             with_reducible rfl
                            rotate_left
                            ·simp only [Act.put, sI_, s0_, sS_, i64_w, i32_w]
                             rfl
                            refine pure_ (i := 5) (N := some 104) (v := ?_) (a' := ?_) #[y_, y_, y_, y_, n_, y_, n_, n_, n_, n_, n_] rfl rfl (any_of HT_.out (by kernel_rfl)) (fun _ _ _ h => h) (Or.inl ⟨by rfl, ?_⟩) ?_ ?_
                            rotate_left
                            ·intro w'
                             go_simp
                             with_reducible rfl
                            rotate_left
                            ·simp only [Act.put, sI_, s0_, sS_, i64_w, i32_w]
                             rfl
                            refine pure_ (i := 6) (N := some 105) (v := ?_) (a' := ?_) #[y_, y_, y_, y_, n_, y_, y_, n_, n_, n_, n_] rfl rfl (any_of HT_.out (by kernel_rfl)) (fun _ _ _ h => h) (Or.inl ⟨by rfl, ?_⟩) ?_ ?_
                            rotate_left
                            ·intro w'
                             go_simp
                             with_reducible rfl
                            rotate_left
                            ·simp only [Act.put, sI_, s0_, sS_, i64_w, i32_w]
                             rfl
                            refine pure_ (i := 7) (N := some 106) (v := ?_) (a' := ?_) #[y_, y_, y_, y_, n_, y_, y_, y_, n_, n_, n_] rfl rfl (any_of HT_.out (by kernel_rfl)) (fun _ _ _ h => h) (Or.inl ⟨by rfl, ?_⟩) ?_ ?_
                            rotate_left
                            ·intro w'
                             go_simp
                             with_reducible rfl
                            rotate_left
                            ·simp only [Act.put, sI_, s0_, sS_, i64_w, i32_w]
                             rfl
                            refine pure_ (i := 8) (N := some 107) (v := ?_) (a' := ?_) #[y_, y_, y_, y_, n_, y_, y_, y_, y_, n_, n_] rfl rfl (any_of HT_.out (by kernel_rfl)) (fun _ _ _ h => h) (Or.inl ⟨by rfl, ?_⟩) ?_ ?_
                            rotate_left
                            ·intro w'
                             go_simp
                             with_reducible rfl
                            rotate_left
                            ·simp only [Act.put, sI_, s0_, sS_, i64_w, i32_w]
                             rfl
                            refine take_ (i := 4) (N := some 103) (v := ?_) (a' := ?_) #[y_, y_, y_, y_, y_, y_, y_, y_, y_, n_, n_] rfl rfl (take_ofW HT_.out HW_.out (by kernel_rfl)) (fun _ _ _ h => h) (Or.inl ⟨by rfl, ?_⟩) hHeld ?_ ?_
                            rotate_left
                            ·rintro w' ⟨s0, s1, s2, s3, s4, s5⟩
                             go_simp
                             with_reducible rfl
                            rotate_left
                            ·simp only [Act.put, sI_, s0_, sS_, i64_w, i32_w]
                             rfl
                            refine take_ (i := 9) (N := some 108) (v := ?_) (a' := ?_) #[y_, y_, y_, y_, y_, y_, y_, y_, y_, y_, n_] rfl rfl (take_ofW HT_.out HW_.out (by kernel_rfl)) (fun _ _ _ h => h) (Or.inl ⟨by rfl, ?_⟩) hHeld ?_ ?_
                            rotate_left
                            ·rintro w' ⟨s0, s1, s2, s3, s4, s5⟩
                             go_simp
                             with_reducible rfl
                            rotate_left
                            ·simp only [Act.put, sI_, s0_, sS_, i64_w, i32_w]
                             rfl
                            refine pure_ (i := 10) (N := some 109) (v := ?_) (a' := ?_) #[y_, y_, y_, y_, y_, y_, y_, y_, y_, y_, y_] rfl rfl (any_of HT_.out (by kernel_rfl)) (fun _ _ _ h => h) (Or.inl ⟨by rfl, ?_⟩) ?_ ?_
                            rotate_left
                            ·intro w'
                             go_simp
                             with_reducible rfl
                            rotate_left
                            ·simp only [Act.put, sI_, s0_, sS_, i64_w, i32_w]
                             rfl
                            refine done_ (done_of HT_.out (by kernel_rfl)) ?_
                            try go_wp2
                            have n0_ := Aside0.mk (Kd.R_drew HO_6.out)
                            have n1_ := Aside0.mk (Kd.R_drew HO_8.out)
                            have n2_ := Aside0.mk (Kd.R_drew HO_9.out)
                            have n3_ := Aside0.mk (below_drew1 HB.out)
                            clear HO_6
                            clear HO_8
                            clear HO_9
                            clear HB
                            have HO_6 := n0_
                            have HO_8 := n1_
                            have HO_9 := n2_
                            have HB := n3_
                            clear n0_ n1_ n2_ n3_
                            have p489 : 0 ≤ (x96_5 : Int) := of_decide_eq_true (by first | (with_reducible assumption) | assumption)
                            have q489 : x96_5 < (x8_5.length : Int) := of_decide_eq_true (by first | (with_reducible assumption) | assumption)
                            obtain ⟨ad489, e489, hx489_0⟩ := Kd.at_int (Kd.R_reads' HO_8.out).2.2 x96_5 p489 q489
                            obtain rfl : ad486 = ad489 := (by injection e489)
                            replace p489 := eq_true p489
                            replace q489 := eq_true q489
                            have p490 : 0 ≤ (x14_4 : Int) := of_decide_eq_true (by first | (with_reducible assumption) | assumption)
                            have q490 : x14_4 < (x8_5.length : Int) := of_decide_eq_true (by first | (with_reducible assumption) | assumption)
                            obtain ⟨ad490, e490, hx490_0⟩ := Kd.at_int (Kd.R_reads' HO_8.out).2.2 x14_4 p490 q490
                            obtain rfl : ad486 = ad490 := (by injection e490)
                            replace p490 := eq_true p490
                            replace q490 := eq_true q490
                            have p75 : 0 ≤ (x96_5 : Int) := of_decide_eq_true (by first | (with_reducible assumption) | assumption)
                            have q75 : (x96_5 : Int) < ((x8_5.length : Int) : Int) := of_decide_eq_true (by first | (with_reducible assumption) | assumption)
                            obtain ⟨go75, co75, eo75, gb75, gl75, cl75, HG75⟩ := Kd.R_form HO_8.out (by omega)
                            (first | cases eo75 | (injection eo75 with ea_ en_ ec_; (first | subst ea_ | (injection ea_ with ea_; subst ea_)); subst ec_; clear en_))
                            have GB75 := Aside0.mk gb75
                            have GG75 := Aside0.mk HG75
                            clear gb75 gl75 HG75
                            (first | simp only [add_plain] at hx486_0 | skip)
                            (first | simp only [add_plain] at hx489_0 | skip)
                            (first | simp only [add_plain] at hx490_0 | skip)
                            obtain ⟨hx75_0, hf75_0⟩ := Kd.R_celln 0 HO_8.out (x96_5 : Int) p75 q75
                            replace p75 := eq_true p75
                            replace q75 := eq_true q75
                            have HP78 := Kd.R_putn HO_8.out (x96_5 : Int) (wrap64 ((rd x8_5 x96_5) + (rd x8_5 x14_4)))
                            rw [← Ny491.out] at HP78
                            have HQ78 := Aside0.mk HP78
                            clear HP78
                            refine start_ (n := 11) (S := fun w' => w'.cell? ⟨go75, (x96_5).toNat, none⟩ = some (.int .i64 (rd x8_5 x96_5)) ∧ w'.cell? ⟨go75, (x14_4).toNat, none⟩ = some (.int .i64 (rd x8_5 x14_4))) (ds := [10]) #[n_, n_, n_, n_, n_, n_, n_, n_, n_, n_, n_] (by kernel_rfl) rfl rfl ⟨hx489_0, hx490_0⟩ (fun hHeld => ?_); refine with_tabW cohousinglaw28_FlowSubmeters.tab32 cohousinglaw28_FlowSubmeters.bits32 (fun HT_ HW_ => ?_)
                            generalize w76.drew = w77 at HO_6 HO_8 HO_9 HB GG75 HQ78 hf75_0 hx489_0 hx490_0 hx75_0 hHeld ⊢
                            refine pure_ (i := 0) (N := some 110) (v := ?_) (a' := ?_) #[y_, n_, n_, n_, n_, n_, n_, n_, n_, n_, n_] rfl rfl (any_of HT_.out (by kernel_rfl)) (fun _ _ _ h => h) (Or.inl ⟨by rfl, ?_⟩) ?_ ?_
                            rotate_left
                            ·intro w'
                             go_simp
                             with_reducible rfl
                            rotate_left
                            ·simp only [Act.put, sI_, s0_, sS_, i64_w, i32_w]
                             rfl
                            refine pure_ (i := 1) (N := some 111) (v := ?_) (a' := ?_) #[y_, y_, n_, n_, n_, n_, n_, n_, n_, n_, n_] rfl rfl (any_of HT_.out (by kernel_rfl)) (fun _ _ _ h => h) (Or.inl ⟨by rfl, ?_⟩) ?_ ?_
                            rotate_left
                            ·intro w'
                             go_simp
                             with_reducible rfl
                            rotate_left
                            ·simp only [Act.put, sI_, s0_, sS_, i64_w, i32_w]
                             rfl
                            refine pure_ (i := 2) (N := some 112) (v := ?_) (a' := ?_) #[y_, y_, y_, n_, n_, n_, n_, n_, n_, n_, n_] rfl rfl (any_of HT_.out (by kernel_rfl)) (fun _ _ _ h => h) (Or.inl ⟨by rfl, ?_⟩) ?_ ?_
                            rotate_left
                            ·intro w'
                             go_simp
                             with_reducible rfl
                            rotate_left
                            ·simp only [Act.put, sI_, s0_, sS_, i64_w, i32_w]
                             rfl
                            refine pure_ (i := 4) (N := some 114) (v := ?_) (a' := ?_) #[y_, y_, y_, n_, y_, n_, n_, n_, n_, n_, n_] rfl rfl (any_of HT_.out (by kernel_rfl)) (fun _ _ _ h => h) (Or.inl ⟨by rfl, ?_⟩) ?_ ?_
                            rotate_left
                            ·intro w'
                             go_simp
                             with_reducible rfl
                            rotate_left
                            ·simp only [Act.put, sI_, s0_, sS_, i64_w, i32_w]
                             rfl
                            refine pure_ (i := 5) (N := some 115) (v := ?_) (a' := ?_) #[y_, y_, y_, n_, y_, y_, n_, n_, n_, n_, n_] rfl rfl (any_of HT_.out (by kernel_rfl)) (fun _ _ _ h => h) (Or.inl ⟨by rfl, ?_⟩) ?_ ?_
                            rotate_left
                            ·intro w'
                             go_simp
                             with_reducible rfl
                            rotate_left
                            ·simp only [Act.put, sI_, s0_, sS_, i64_w, i32_w]
                             rfl
                            refine pure_ (i := 6) (N := some 116) (v := ?_) (a' := ?_) #[y_, y_, y_, n_, y_, y_, y_, n_, n_, n_, n_] rfl rfl (any_of HT_.out (by kernel_rfl)) (fun _ _ _ h => h) (Or.inl ⟨by rfl, ?_⟩) ?_ ?_
                            rotate_left
                            ·intro w'
                             go_simp
                             with_reducible rfl
                            rotate_left
                            ·simp only [Act.put, sI_, s0_, sS_, i64_w, i32_w]
                             rfl
                            refine take_ (i := 3) (N := some 113) (v := ?_) (a' := ?_) #[y_, y_, y_, y_, y_, y_, y_, n_, n_, n_, n_] rfl rfl (take_ofW HT_.out HW_.out (by kernel_rfl)) (fun _ _ _ h => h) (Or.inl ⟨by rfl, ?_⟩) hHeld ?_ ?_
                            rotate_left
                            ·rintro w' ⟨s0, s1⟩
                             go_simp
                             with_reducible rfl
                            rotate_left
                            ·simp only [Act.put, sI_, s0_, sS_, i64_w, i32_w]
                             rfl
                            refine take_ (i := 7) (N := some 117) (v := ?_) (a' := ?_) #[y_, y_, y_, y_, y_, y_, y_, y_, n_, n_, n_] rfl rfl (take_ofW HT_.out HW_.out (by kernel_rfl)) (fun _ _ _ h => h) (Or.inl ⟨by rfl, ?_⟩) hHeld ?_ ?_
                            rotate_left
                            ·rintro w' ⟨s0, s1⟩
                             go_simp
                             with_reducible rfl
                            rotate_left
                            ·simp only [Act.put, sI_, s0_, sS_, i64_w, i32_w]
                             rfl
                            refine pure_ (i := 8) (N := some 118) (v := ?_) (a' := ?_) #[y_, y_, y_, y_, y_, y_, y_, y_, y_, n_, n_] rfl rfl (any_of HT_.out (by kernel_rfl)) (fun _ _ _ h => h) (Or.inl ⟨by rfl, ?_⟩) ?_ ?_
                            rotate_left
                            ·intro w'
                             go_simp
                             with_reducible rfl
                            rotate_left
                            ·simp only [Act.put, sI_, s0_, sS_, i64_w, i32_w]
                             rfl
                            refine pure_ (i := 9) (N := some 119) (v := ?_) (a' := ?_) #[y_, y_, y_, y_, y_, y_, y_, y_, y_, y_, n_] rfl rfl (any_of HT_.out (by kernel_rfl)) (fun _ _ _ h => h) (Or.inl ⟨by rfl, ?_⟩) ?_ ?_
                            rotate_left
                            ·intro w'
                             go_simp
                             with_reducible rfl
                            rotate_left
                            ·simp only [Act.put, sI_, s0_, sS_, i64_w, i32_w]
                             rfl
                            refine last_ (i := 10) (N := none) #[y_, y_, y_, y_, y_, y_, y_, y_, y_, y_, y_] rfl rfl (one_of HT_.out (by kernel_rfl)) (by decide) (fun K hK => ?_)
                            refine skip_ (w1 := ?_) (by rfl) rfl ?_ ?_
                            rotate_left
                            ·go_simp
                             rfl
                            refine hK.out _ _ ?_
                            clear hK K
                            refine done_ (done_of HT_.out (by kernel_rfl)) ?_
                            try go_wp2
                            (try simp only [← hl8_5])
                            (try rw [← add_plain go75 (x14_4 : Int).toNat])
                            go_roundg k5
                            case measure => have := HK1.out; have := HJ15.out; have := HK3.out; have := HK4.out; have := HK5.out; omega
                            case rel => exact ⟨(y491), (wrap64 (x96_5 + 1)), (by first | rfl | (simp; done) | (simp [*]; done)), H', ⟨by have := HK1.out; have := HJ15.out; have := HK3.out; have := HK4.out; have := HK5.out; omega⟩, ⟨by (try simp only [hl6_1]); (try simp only [hl8_5]); (with_reducible repeat (first | apply Kd.R_alloc | apply Kd.R_drewN | apply Kd.R_drew)); exact Kd.R_mono (Kd.R_far (p := ⟨go75, (x96_5 : Int).toNat, none⟩) (Kd.R_types HO_6.out GG75.out (by decide)) (fun _ hk => hk.2) (.int .i64 (wrap64 ((rd x8_5 x96_5) + (rd x8_5 x14_4))))) (fun _ hk => trivial)⟩, ⟨by (try simp only [hl6_1]); (try simp only [hl8_5]); (with_reducible repeat (first | apply Kd.R_alloc | apply Kd.R_drewN | apply Kd.R_drew)); exact HQ78.out⟩, ⟨by (try simp only [hl6_1]); (try simp only [hl8_5]); (with_reducible repeat (first | apply Kd.R_alloc | apply Kd.R_drewN | apply Kd.R_drew)); exact Kd.R_mono (Kd.R_far (p := ⟨go75, (x96_5 : Int).toNat, none⟩) (Kd.R_types HO_9.out GG75.out (by decide)) (fun _ hk => hk.2) (.int .i64 (wrap64 ((rd x8_5 x96_5) + (rd x8_5 x14_4))))) (fun _ hk => trivial)⟩, ⟨by repeat (first | (with_reducible first | exact HB.out | apply below_alloc | apply pw_below_drewN | apply below_drew1 | refine below_set ?_ GB75.out) | exact HB.out)⟩⟩
                           ·rw [if_neg c74] at H
                            exact absurd H (by simp)
                          ·rw [if_neg c73] at H
                           exact absurd H (by simp)
                         ·rw [if_neg c72] at H
                          have c72b0 : (((rd_T44 x6_1 x96_5).f0) == ((rd_T44 x6_1 x14_4).f1)) = false := beq_eq_false_iff_ne.mpr c72
                          have c72b1 : (((rd_T44 x6_1 x96_5).f0) != ((rd_T44 x6_1 x14_4).f1)) = true := bne_iff_ne.mpr c72
                          have H' := Aside0.mk H
                          clear H
                          try go_wp2
                          have n0_ := Aside0.mk (Kd.R_drew HO_6.out)
                          have n1_ := Aside0.mk (Kd.R_drew HO_8.out)
                          have n2_ := Aside0.mk (Kd.R_drew HO_9.out)
                          have n3_ := Aside0.mk (below_drew1 HB.out)
                          clear HO_6
                          clear HO_8
                          clear HO_9
                          clear HB
                          have HO_6 := n0_
                          have HO_8 := n1_
                          have HO_9 := n2_
                          have HB := n3_
                          clear n0_ n1_ n2_ n3_
                          have p487 : 0 ≤ (x96_5 : Int) := of_decide_eq_true (by first | (with_reducible assumption) | assumption)
                          have q487 : x96_5 < (x6_1.length : Int) := of_decide_eq_true (by first | (with_reducible assumption) | assumption)
                          obtain ⟨ad487, e487, hx487_0, hx487_1, hx487_2⟩ := at_T44 (Kd.R_reads' HO_6.out).2.2 x96_5 p487 q487
                          cases e487
                          replace p487 := eq_true p487
                          replace q487 := eq_true q487
                          have p488 : 0 ≤ (x14_4 : Int) := of_decide_eq_true (by first | (with_reducible assumption) | assumption)
                          have q488 : x14_4 < (x6_1.length : Int) := of_decide_eq_true (by first | (with_reducible assumption) | assumption)
                          obtain ⟨ad488, e488, hx488_0, hx488_1, hx488_2⟩ := at_T44 (Kd.R_reads' HO_6.out).2.2 x14_4 p488 q488
                          obtain rfl : ad487 = ad488 := (by injection e488)
                          replace p488 := eq_true p488
                          replace q488 := eq_true q488
                          refine start_ (n := 11) (S := fun w' => w'.cell? (ad487.add ((x96_5).toNat * 3)) = some (.int .i64 ((rd_T44 x6_1 x96_5).f0)) ∧ w'.cell? ⟨(ad487.add ((x96_5).toNat * 3)).block, (ad487.add ((x96_5).toNat * 3)).off + 1, none⟩ = some (.int .i64 ((rd_T44 x6_1 x96_5).f1)) ∧ w'.cell? ⟨(ad487.add ((x96_5).toNat * 3)).block, (ad487.add ((x96_5).toNat * 3)).off + 2, none⟩ = some (.int .i64 ((rd_T44 x6_1 x96_5).f2)) ∧ w'.cell? (ad487.add ((x14_4).toNat * 3)) = some (.int .i64 ((rd_T44 x6_1 x14_4).f0)) ∧ w'.cell? ⟨(ad487.add ((x14_4).toNat * 3)).block, (ad487.add ((x14_4).toNat * 3)).off + 1, none⟩ = some (.int .i64 ((rd_T44 x6_1 x14_4).f1)) ∧ w'.cell? ⟨(ad487.add ((x14_4).toNat * 3)).block, (ad487.add ((x14_4).toNat * 3)).off + 2, none⟩ = some (.int .i64 ((rd_T44 x6_1 x14_4).f2))) (ds := []) #[n_, n_, n_, n_, n_, n_, n_, n_, n_, n_, n_] (by kernel_rfl) rfl rfl ⟨hx487_0, hx487_1, hx487_2, hx488_0, hx488_1, hx488_2⟩ (fun hHeld => ?_); refine with_tabW cohousinglaw28_FlowSubmeters.tab31 cohousinglaw28_FlowSubmeters.bits31 (fun HT_ HW_ => ?_)
                          generalize wr.drew = w79 at HO_6 HO_8 HO_9 HB hx487_0 hx487_1 hx487_2 hx488_0 hx488_1 hx488_2 hHeld ⊢
                          refine pure_ (i := 0) (N := some 99) (v := ?_) (a' := ?_) #[y_, n_, n_, n_, n_, n_, n_, n_, n_, n_, n_] rfl rfl (any_of HT_.out (by kernel_rfl)) (fun _ _ _ h => h) (Or.inl ⟨by rfl, ?_⟩) ?_ ?_
                          rotate_left
                          ·intro w'
                           go_simp
                           with_reducible rfl
                          rotate_left
                          ·simp only [Act.put, sI_, s0_, sS_, i64_w, i32_w]
                           rfl
                          refine pure_ (i := 1) (N := some 100) (v := ?_) (a' := ?_) #[y_, y_, n_, n_, n_, n_, n_, n_, n_, n_, n_] rfl rfl (any_of HT_.out (by kernel_rfl)) (fun _ _ _ h => h) (Or.inl ⟨by rfl, ?_⟩) ?_ ?_
                          rotate_left
                          ·intro w'
                           go_simp
                           with_reducible rfl
                          rotate_left
                          ·simp only [Act.put, sI_, s0_, sS_, i64_w, i32_w]
                           rfl
                          refine pure_ (i := 2) (N := some 101) (v := ?_) (a' := ?_) #[y_, y_, y_, n_, n_, n_, n_, n_, n_, n_, n_] rfl rfl (any_of HT_.out (by kernel_rfl)) (fun _ _ _ h => h) (Or.inl ⟨by rfl, ?_⟩) ?_ ?_
                          rotate_left
                          ·intro w'
                           go_simp
                           with_reducible rfl
                          rotate_left
                          ·simp only [Act.put, sI_, s0_, sS_, i64_w, i32_w]
                           rfl
                          refine pure_ (i := 3) (N := some 102) (v := ?_) (a' := ?_) #[y_, y_, y_, y_, n_, n_, n_, n_, n_, n_, n_] rfl rfl (any_of HT_.out (by kernel_rfl)) (fun _ _ _ h => h) (Or.inl ⟨by rfl, ?_⟩) ?_ ?_
                          rotate_left
                          ·intro w'
                           go_simp
                           with_reducible rfl
                          rotate_left
                          ·simp only [Act.put, sI_, s0_, sS_, i64_w, i32_w]
                           rfl
                          refine pure_ (i := 5) (N := some 104) (v := ?_) (a' := ?_) #[y_, y_, y_, y_, n_, y_, n_, n_, n_, n_, n_] rfl rfl (any_of HT_.out (by kernel_rfl)) (fun _ _ _ h => h) (Or.inl ⟨by rfl, ?_⟩) ?_ ?_
                          rotate_left
                          ·intro w'
                           go_simp
                           with_reducible rfl
                          rotate_left
                          ·simp only [Act.put, sI_, s0_, sS_, i64_w, i32_w]
                           rfl
                          refine pure_ (i := 6) (N := some 105) (v := ?_) (a' := ?_) #[y_, y_, y_, y_, n_, y_, y_, n_, n_, n_, n_] rfl rfl (any_of HT_.out (by kernel_rfl)) (fun _ _ _ h => h) (Or.inl ⟨by rfl, ?_⟩) ?_ ?_
                          rotate_left
                          ·intro w'
                           go_simp
                           with_reducible rfl
                          rotate_left
                          ·simp only [Act.put, sI_, s0_, sS_, i64_w, i32_w]
                           rfl
                          refine pure_ (i := 7) (N := some 106) (v := ?_) (a' := ?_) #[y_, y_, y_, y_, n_, y_, y_, y_, n_, n_, n_] rfl rfl (any_of HT_.out (by kernel_rfl)) (fun _ _ _ h => h) (Or.inl ⟨by rfl, ?_⟩) ?_ ?_
                          rotate_left
                          ·intro w'
                           go_simp
                           with_reducible rfl
                          rotate_left
                          ·simp only [Act.put, sI_, s0_, sS_, i64_w, i32_w]
                           rfl
                          refine pure_ (i := 8) (N := some 107) (v := ?_) (a' := ?_) #[y_, y_, y_, y_, n_, y_, y_, y_, y_, n_, n_] rfl rfl (any_of HT_.out (by kernel_rfl)) (fun _ _ _ h => h) (Or.inl ⟨by rfl, ?_⟩) ?_ ?_
                          rotate_left
                          ·intro w'
                           go_simp
                           with_reducible rfl
                          rotate_left
                          ·simp only [Act.put, sI_, s0_, sS_, i64_w, i32_w]
                           rfl
                          refine take_ (i := 4) (N := some 103) (v := ?_) (a' := ?_) #[y_, y_, y_, y_, y_, y_, y_, y_, y_, n_, n_] rfl rfl (take_ofW HT_.out HW_.out (by kernel_rfl)) (fun _ _ _ h => h) (Or.inl ⟨by rfl, ?_⟩) hHeld ?_ ?_
                          rotate_left
                          ·rintro w' ⟨s0, s1, s2, s3, s4, s5⟩
                           go_simp
                           with_reducible rfl
                          rotate_left
                          ·simp only [Act.put, sI_, s0_, sS_, i64_w, i32_w]
                           rfl
                          refine take_ (i := 9) (N := some 108) (v := ?_) (a' := ?_) #[y_, y_, y_, y_, y_, y_, y_, y_, y_, y_, n_] rfl rfl (take_ofW HT_.out HW_.out (by kernel_rfl)) (fun _ _ _ h => h) (Or.inl ⟨by rfl, ?_⟩) hHeld ?_ ?_
                          rotate_left
                          ·rintro w' ⟨s0, s1, s2, s3, s4, s5⟩
                           go_simp
                           with_reducible rfl
                          rotate_left
                          ·simp only [Act.put, sI_, s0_, sS_, i64_w, i32_w]
                           rfl
                          refine pure_ (i := 10) (N := some 109) (v := ?_) (a' := ?_) #[y_, y_, y_, y_, y_, y_, y_, y_, y_, y_, y_] rfl rfl (any_of HT_.out (by kernel_rfl)) (fun _ _ _ h => h) (Or.inl ⟨by rfl, ?_⟩) ?_ ?_
                          rotate_left
                          ·intro w'
                           go_simp
                           with_reducible rfl
                          rotate_left
                          ·simp only [Act.put, sI_, s0_, sS_, i64_w, i32_w]
                           rfl
                          refine done_ (done_of HT_.out (by kernel_rfl)) ?_
                          try go_wp2
                          (try simp only [← hl8_5])
                          (try rw [← add_plain go75 (x14_4 : Int).toNat])
                          go_roundg k5
                          case measure => have := HK1.out; have := HJ15.out; have := HK3.out; have := HK4.out; have := HK5.out; omega
                          case rel => exact ⟨(x8_5), (wrap64 (x96_5 + 1)), (by first | rfl | (simp; done) | (simp [*]; done)), H', ⟨by have := HK1.out; have := HJ15.out; have := HK3.out; have := HK4.out; have := HK5.out; omega⟩, ⟨by (try simp only [hl6_1]); (try simp only [hl8_5]); (with_reducible repeat (first | apply Kd.R_alloc | apply Kd.R_drewN | apply Kd.R_drew)); exact HO_6.out⟩, ⟨by (try simp only [hl6_1]); (try simp only [hl8_5]); (with_reducible repeat (first | apply Kd.R_alloc | apply Kd.R_drewN | apply Kd.R_drew)); exact HO_8.out⟩, ⟨by (try simp only [hl6_1]); (try simp only [hl8_5]); (with_reducible repeat (first | apply Kd.R_alloc | apply Kd.R_drewN | apply Kd.R_drew)); exact HO_9.out⟩, ⟨by repeat (first | (with_reducible first | exact HB.out | apply below_alloc | apply pw_below_drewN | apply below_drew1) | exact HB.out)⟩⟩
                        ·rw [if_neg c71] at H
                         exact absurd H (by simp)
                       ·rw [if_neg c70] at H
                        exact absurd H (by simp)
                      ·rw [if_neg c69] at H
                       exact absurd H (by simp)
                     ·rw [if_neg c68] at H
                      exact absurd H (by simp)
                    ·rw [if_neg c67] at H
                     have c67b0 : decide (x96_5 < x14_4) = false := decide_eq_false c67
                     clear c67
                     have H' := Aside0.mk H
                     clear H
                     go_wp2
                     (try simp only [← hl8_5])
                     (try rw [← add_plain go75 (x14_4 : Int).toNat])
                     go_roundg k5
                     case measure => have := HK1.out; have := HJ15.out; have := HK3.out; have := HK4.out; have := HK5.out; omega
                     case rel => exact ⟨(x8_5), (ji65), (wrap64 (x14_4 - 1)), (by first | rfl | (simp; done) | (simp only [← hji65] <;> (first | rfl | simp)) | (simp [*]; done)), (by first | rfl | (simp; done) | (simp [*]; done)), H', ⟨by have := HK1.out; have := HJ15.out; have := HK3.out; have := HK4.out; have := HK5.out; omega⟩, ⟨by (try simp only [hl6_1]); (try simp only [hl8_5]); (with_reducible repeat (first | apply Kd.R_alloc | apply Kd.R_drewN | apply Kd.R_drew)); exact HO_6.out⟩, ⟨by (try simp only [hl6_1]); (try simp only [hl8_5]); (with_reducible repeat (first | apply Kd.R_alloc | apply Kd.R_drewN | apply Kd.R_drew)); exact HO_8.out⟩, ⟨by (try simp only [hl6_1]); (try simp only [hl8_5]); (with_reducible repeat (first | apply Kd.R_alloc | apply Kd.R_drewN | apply Kd.R_drew)); exact HO_9.out⟩, ⟨by repeat (first | (with_reducible first | exact HB.out | apply below_alloc | apply pw_below_drewN | apply below_drew1) | exact HB.out)⟩⟩
                 ·rw [if_neg c64] at H
                  exact absurd H (by simp)
                ·rw [if_neg c63] at H
                 exact absurd H (by simp)
               ·rw [if_neg c62] at H
                have c62b0 : decide (0 ≤ x14_4) = false := decide_eq_false c62
                clear c62
                replace H := Option.bind_eq_some_iff.mp H
                obtain ⟨⟨t492, t493⟩, A800, H⟩ := H
                replace H : (if x13_4 > 1000000000 then (if t460 = true then (some (t493 == 30)) else (some false)) else (if t493 = 0 then (cohousinglaw28_FlowSubmeters.j5 k4 t460 x8_4 t492 ((t492.length : Int) != (x6_1.length : Int))) else (cohousinglaw28_FlowSubmeters.j5 k4 t460 x8_4 t492 true))) = some r := H
                have A80 := Aside0.mk A800
                clear A800
                by_cases c81 : x13_4 > 1000000000
                ·rw [if_pos c81] at H
                 have c81b0 : decide (1000000000 < x13_4) = true := decide_eq_true c81
                 clear c81
                 by_cases c82 : t460 = true
                 ·subst c82
                  have H1 : (some (t493 == 30)) = some r := by rw [if_pos rfl] at H; exact H
                  clear H
                  have H := H1
                  clear H1
                  obtain rfl := Option.some.inj H
                  obtain ⟨Ao83, co83, eo83⟩ := Kd.R_slice HO_9.out
                  subst eo83
                  go_wp2_with (first | ((with_reducible refine gate_callee (f := 11) rfl ?_); refine goesL_ (some 124) rfl rfl Try.func11 (by kernel_rfl) rfl #[.slice Ao9 x6_1.length co9, .slice Ao83 x9_3.length co83] rfl (by (try simp only [List.map_toArray, List.map_cons, List.map_nil]); first | done | rfl | (simp only [List.length_drop, List.length_take]; rfl)) ?_; (with_reducible refine (flow_Bounds.calls _ _ x6_1 _ _ x9_3 t492 t493 _ ?side1 ?side2 ?side3 ?side4 A80.out).mono ?_); (case side1 => repeat (first | exact (Kd.R_reads' HO_6.out).2.2 | (with_reducible refine Kd.C_alloc ?_ _) | (with_reducible refine Kd.C_drewN ?_ _) | (with_reducible refine Kd.C_drew ?_))); (case side2 => exact (Kd.R_reads' HO_6.out).2.1); (case side3 => repeat (first | exact (Kd.R_reads' HO_9.out).2.2 | (with_reducible refine Kd.C_alloc ?_ _) | (with_reducible refine Kd.C_drewN ?_ _) | (with_reducible refine Kd.C_drew ?_))); (case side4 => exact (Kd.R_reads' HO_9.out).2.1); rintro e w84 ⟨v494, rfl, ho0, hb⟩; refine ⟨_, rfl, ?_⟩; have n0_ := Aside0.mk (Kd.R_below (by (with_reducible repeat (first | apply Kd.R_alloc | apply Kd.R_drewN | apply Kd.R_drew)); exact HO_6.out) hb); have n1_ := Aside0.mk (Kd.R_below (by (with_reducible repeat (first | apply Kd.R_alloc | apply Kd.R_drewN | apply Kd.R_drew)); exact HO_8.out) hb); have n2_ := Aside0.mk (Kd.R_elder' (by (with_reducible repeat (first | apply Kd.R_alloc | apply Kd.R_drewN | apply Kd.R_drew)); exact HO_9.out) (Kd.R_base ho0) hb); have n3_ := Aside0.mk (Kd.R_lower (Kd.R_new' ho0 (Kd.R_lt (by (with_reducible repeat (first | apply Kd.R_alloc | apply Kd.R_drewN | apply Kd.R_drew)); exact HO_9.out))) (below_size (by repeat (first | (with_reducible first | exact HB.out | apply below_alloc | apply pw_below_drewN | apply below_drew1) | exact HB.out)))); have n4_ := Aside0.mk (below_step (by repeat (first | (with_reducible first | exact HB.out | apply below_alloc | apply pw_below_drewN | apply below_drew1) | exact HB.out)) hb); clear HO_6; clear HO_8; clear HO_9; clear HB; have HO_6 := n0_; have HO_8 := n1_; have HO_9 := n2_; have HO495 := n3_; have HB := n4_; clear n0_ n1_ n2_ n3_ n4_; (try clear hb); (try clear hb2); (try clear hk); (try clear hi); (try clear ho0)))
                  go_ret
                  exact ⟨by first | rfl | (simp [errW_none, errW_some] <;> rfl) | (simp [*, errW_none, errW_some] <;> rfl), by repeat (first | (with_reducible first | exact HB.out | apply below_alloc | apply pw_below_drewN | apply below_drew1) | exact HB.out)⟩
                 ·replace c82 := Bool.eq_false_iff.mpr c82
                  subst c82
                  have H1 : (some false) = some r := by rw [if_neg (show ¬ (false = true) by decide)] at H; exact H
                  clear H
                  have H := H1
                  clear H1
                  obtain rfl := Option.some.inj H
                  obtain ⟨Ao85, co85, eo85⟩ := Kd.R_slice HO_9.out
                  subst eo85
                  go_wp2_with (first | ((with_reducible refine gate_callee (f := 11) rfl ?_); refine goesL_ (some 124) rfl rfl Try.func11 (by kernel_rfl) rfl #[.slice Ao9 x6_1.length co9, .slice Ao85 x9_3.length co85] rfl (by (try simp only [List.map_toArray, List.map_cons, List.map_nil]); first | done | rfl | (simp only [List.length_drop, List.length_take]; rfl)) ?_; (with_reducible refine (flow_Bounds.calls _ _ x6_1 _ _ x9_3 t492 t493 _ ?side1 ?side2 ?side3 ?side4 A80.out).mono ?_); (case side1 => repeat (first | exact (Kd.R_reads' HO_6.out).2.2 | (with_reducible refine Kd.C_alloc ?_ _) | (with_reducible refine Kd.C_drewN ?_ _) | (with_reducible refine Kd.C_drew ?_))); (case side2 => exact (Kd.R_reads' HO_6.out).2.1); (case side3 => repeat (first | exact (Kd.R_reads' HO_9.out).2.2 | (with_reducible refine Kd.C_alloc ?_ _) | (with_reducible refine Kd.C_drewN ?_ _) | (with_reducible refine Kd.C_drew ?_))); (case side4 => exact (Kd.R_reads' HO_9.out).2.1); rintro e w86 ⟨v494, rfl, ho0, hb⟩; refine ⟨_, rfl, ?_⟩; have n0_ := Aside0.mk (Kd.R_below (by (with_reducible repeat (first | apply Kd.R_alloc | apply Kd.R_drewN | apply Kd.R_drew)); exact HO_6.out) hb); have n1_ := Aside0.mk (Kd.R_below (by (with_reducible repeat (first | apply Kd.R_alloc | apply Kd.R_drewN | apply Kd.R_drew)); exact HO_8.out) hb); have n2_ := Aside0.mk (Kd.R_elder' (by (with_reducible repeat (first | apply Kd.R_alloc | apply Kd.R_drewN | apply Kd.R_drew)); exact HO_9.out) (Kd.R_base ho0) hb); have n3_ := Aside0.mk (Kd.R_lower (Kd.R_new' ho0 (Kd.R_lt (by (with_reducible repeat (first | apply Kd.R_alloc | apply Kd.R_drewN | apply Kd.R_drew)); exact HO_9.out))) (below_size (by repeat (first | (with_reducible first | exact HB.out | apply below_alloc | apply pw_below_drewN | apply below_drew1) | exact HB.out)))); have n4_ := Aside0.mk (below_step (by repeat (first | (with_reducible first | exact HB.out | apply below_alloc | apply pw_below_drewN | apply below_drew1) | exact HB.out)) hb); clear HO_6; clear HO_8; clear HO_9; clear HB; have HO_6 := n0_; have HO_8 := n1_; have HO_9 := n2_; have HO495 := n3_; have HB := n4_; clear n0_ n1_ n2_ n3_ n4_; (try clear hb); (try clear hb2); (try clear hk); (try clear hi); (try clear ho0)))
                  go_ret
                  exact ⟨by first | rfl | (simp [errW_none, errW_some] <;> rfl) | (simp [*, errW_none, errW_some] <;> rfl), by repeat (first | (with_reducible first | exact HB.out | apply below_alloc | apply pw_below_drewN | apply below_drew1) | exact HB.out)⟩
                ·rw [if_neg c81] at H
                 have c81b0 : decide (1000000000 < x13_4) = false := decide_eq_false c81
                 clear c81
                 have HC87 := Aside0.mk H
                 clear H
                 obtain ⟨Ao88, co88, eo88⟩ := Kd.R_slice HO_9.out
                 subst eo88
                 go_upto_region 37 with (first | ((with_reducible refine gate_callee (f := 11) rfl ?_); refine goesL_ (some 124) rfl rfl Try.func11 (by kernel_rfl) rfl #[.slice Ao9 x6_1.length co9, .slice Ao88 x9_3.length co88] rfl (by (try simp only [List.map_toArray, List.map_cons, List.map_nil]); first | done | rfl | (simp only [List.length_drop, List.length_take]; rfl)) ?_; (with_reducible refine (flow_Bounds.calls _ _ x6_1 _ _ x9_3 t492 t493 _ ?side1 ?side2 ?side3 ?side4 A80.out).mono ?_); (case side1 => repeat (first | exact (Kd.R_reads' HO_6.out).2.2 | (with_reducible refine Kd.C_alloc ?_ _) | (with_reducible refine Kd.C_drewN ?_ _) | (with_reducible refine Kd.C_drew ?_))); (case side2 => exact (Kd.R_reads' HO_6.out).2.1); (case side3 => repeat (first | exact (Kd.R_reads' HO_9.out).2.2 | (with_reducible refine Kd.C_alloc ?_ _) | (with_reducible refine Kd.C_drewN ?_ _) | (with_reducible refine Kd.C_drew ?_))); (case side4 => exact (Kd.R_reads' HO_9.out).2.1); rintro e w89 ⟨v494, rfl, ho0, hb⟩; refine ⟨_, rfl, ?_⟩; have n0_ := Aside0.mk (Kd.R_below (by (with_reducible repeat (first | apply Kd.R_alloc | apply Kd.R_drewN | apply Kd.R_drew)); exact HO_6.out) hb); have n1_ := Aside0.mk (Kd.R_below (by (with_reducible repeat (first | apply Kd.R_alloc | apply Kd.R_drewN | apply Kd.R_drew)); exact HO_8.out) hb); have n2_ := Aside0.mk (Kd.R_elder' (by (with_reducible repeat (first | apply Kd.R_alloc | apply Kd.R_drewN | apply Kd.R_drew)); exact HO_9.out) (Kd.R_base ho0) hb); have n3_ := Aside0.mk (Kd.R_lower (Kd.R_new' ho0 (Kd.R_lt (by (with_reducible repeat (first | apply Kd.R_alloc | apply Kd.R_drewN | apply Kd.R_drew)); exact HO_9.out))) (below_size (by repeat (first | (with_reducible first | exact HB.out | apply below_alloc | apply pw_below_drewN | apply below_drew1) | exact HB.out)))); have n4_ := Aside0.mk (below_step (by repeat (first | (with_reducible first | exact HB.out | apply below_alloc | apply pw_below_drewN | apply below_drew1) | exact HB.out)) hb); clear HO_6; clear HO_8; clear HO_9; clear HB; have HO_6 := n0_; have HO_8 := n1_; have HO_9 := n2_; have HO495 := n3_; have HB := n4_; clear n0_ n1_ n2_ n3_ n4_; (try clear hb); (try clear hb2); (try clear hk); (try clear hi); (try clear ho0)))
                 (try simp only [Act.put, sI_, s0_, sS_])
                 go_cut [142] (fun v142 wc => ∃ (kq : Nat) (x142_86 : Bool), v142 = .bool x142_86 ∧ Aside0 (cohousinglaw28_FlowSubmeters.j5 kq t460 x8_4 t492 x142_86 = some r) ∧ Aside0 (kq ≤ k4) ∧ Aside0 (Kd.R (Kd.int .i64) 3 wc w.heap.size (fun _ => True) v470 x8_4) ∧ Aside0 (Kd.R k39 39 wc w.heap.size (fun _ => True) v494 t492) ∧ Aside0 (Below w.heap.size w wc))
                 case first =>
                  have H := HC87.out
                  clear HC87
                  by_cases c90 : t493 = 0
                  ·rw [if_pos c90] at H
                   have c90b0 : (t493 == 0) = true := beq_iff_eq.mpr c90
                   have c90b1 : (t493 != 0) = false := bne_eq_false_iff_eq.mpr c90
                   clear c90
                   (first | rw [c90b0] | (simp only [i64_w, i32_w]; rw [c90b0]) | skip)
                   have H' := Aside0.mk H
                   clear H
                   obtain ⟨Ao91, co91, eo91⟩ := Kd.R_slice HO495.out
                   subst eo91
                   go_wp2
                   go_meet
                   case rel => exact ⟨_, (((t492.length : Int) != (x6_1.length : Int))), (by first | rfl | (simp; done) | (simp [*]; done)), H', ⟨by have := HK1.out; have := HJ15.out; have := HK3.out; have := HK4.out; first | omega | exact Nat.le_refl _⟩, ⟨by (try simp only [hl6_1]); (with_reducible repeat (first | apply Kd.R_alloc | apply Kd.R_drewN | apply Kd.R_drew)); exact HO_8.out⟩, ⟨by (try simp only [hl6_1]); (with_reducible repeat (first | apply Kd.R_alloc | apply Kd.R_drewN | apply Kd.R_drew)); exact Kd.R_mono HO495.out (fun _ hk => trivial)⟩, ⟨by repeat (first | (with_reducible first | exact HB.out | apply below_alloc | apply pw_below_drewN | apply below_drew1) | exact HB.out)⟩⟩
                  ·rw [if_neg c90] at H
                   have c90b0 : (t493 == 0) = false := beq_eq_false_iff_ne.mpr c90
                   have c90b1 : (t493 != 0) = true := bne_iff_ne.mpr c90
                   (first | rw [c90b0] | (simp only [i64_w, i32_w]; rw [c90b0]) | skip)
                   have H' := Aside0.mk H
                   clear H
                   go_wp2
                   go_meet
                   case rel => exact ⟨_, (true), (by first | rfl | (simp; done) | (simp [*]; done)), H', ⟨by have := HK1.out; have := HJ15.out; have := HK3.out; have := HK4.out; first | omega | exact Nat.le_refl _⟩, ⟨by (try simp only [hl6_1]); (with_reducible repeat (first | apply Kd.R_alloc | apply Kd.R_drewN | apply Kd.R_drew)); exact HO_8.out⟩, ⟨by (try simp only [hl6_1]); (with_reducible repeat (first | apply Kd.R_alloc | apply Kd.R_drewN | apply Kd.R_drew)); exact Kd.R_mono HO495.out (fun _ hk => trivial)⟩, ⟨by repeat (first | (with_reducible first | exact HB.out | apply below_alloc | apply pw_below_drewN | apply below_drew1) | exact HB.out)⟩⟩
                 case rest =>
                  clear HC87
                  try clear c1
                  try clear p1
                  try clear q1
                  try clear hx1
                  try clear p2
                  try clear p3
                  try clear q3
                  try clear hx3
                  try clear p4
                  try clear q4
                  try clear hx4
                  try clear c5
                  try clear c6
                  try clear p6
                  try clear c7
                  try clear p7
                  try clear q7
                  try clear hx7
                  try clear hf7
                  try clear c8
                  try clear c9
                  try clear c11
                  try clear p13
                  try clear q13
                  try clear hx13
                  try clear hx14
                  try clear p33
                  try clear q33
                  try clear hx33
                  try clear p45
                  try clear q45
                  try clear hx45
                  try clear p47
                  try clear q47
                  try clear hx47
                  try clear p48
                  try clear q48
                  try clear hx48
                  try clear p49
                  try clear q49
                  try clear hx49
                  try clear c56
                  try clear c62
                  try clear c62b0
                  try clear c63
                  try clear c63b0
                  try clear c64
                  try clear c64b0
                  try clear p64
                  try clear c67
                  try clear c67b0
                  try clear c68
                  try clear c68b0
                  try clear c69
                  try clear c69b0
                  try clear c70
                  try clear c70b0
                  try clear c71
                  try clear c71b0
                  try clear c72
                  try clear c72b0
                  try clear c72b1
                  try clear c73
                  try clear c73b0
                  try clear c74
                  try clear c74b0
                  try clear p75
                  try clear q75
                  try clear hx75
                  try clear hf75
                  try clear c81
                  try clear c81b0
                  try clear c82
                  try clear c90
                  try clear c90b0
                  try clear c90b1
                  try clear hcz36_0
                  try clear hcz36_1
                  try clear hcz38_0
                  try clear hcz38_1
                  try clear hcz42_0
                  try clear hcz42_1
                  try clear hcz48_0
                  try clear hcz48_1
                  try clear hcz50_0
                  try clear hcz50_1
                  try clear hcz54_0
                  try clear hcz54_1
                  try clear hcz58_0
                  try clear hcz58_1
                  try clear hcz60_0
                  try clear hcz60_1
                  try clear hfz36_0
                  try clear hfz36_1
                  try clear hfz38_0
                  try clear hfz38_1
                  try clear hfz42_0
                  try clear hfz42_1
                  try clear hfz48_0
                  try clear hfz48_1
                  try clear hfz50_0
                  try clear hfz50_1
                  try clear hfz54_0
                  try clear hfz54_1
                  try clear hfz58_0
                  try clear hfz58_1
                  try clear hfz60_0
                  try clear hfz60_1
                  try clear hx13_0
                  try clear hx13_1
                  try clear hx13_2
                  try clear hx14_2
                  try clear hx33_0
                  try clear hx45_0
                  try clear hx474_0
                  try clear hx486_0
                  try clear hx487_0
                  try clear hx487_1
                  try clear hx487_2
                  try clear hx488_0
                  try clear hx488_1
                  try clear hx488_2
                  try clear hx489_0
                  try clear hx490_0
                  try clear hx75_0
                  try clear p1
                  try clear p13
                  try clear p2
                  try clear p3
                  try clear p33
                  try clear p4
                  try clear p45
                  try clear p47
                  try clear p474
                  try clear p486
                  try clear p487
                  try clear p488
                  try clear p489
                  try clear p490
                  try clear p6
                  try clear p64
                  try clear p75
                  try clear q1
                  try clear q13
                  try clear q3
                  try clear q33
                  try clear q4
                  try clear q45
                  try clear q47
                  try clear q474
                  try clear q486
                  try clear q487
                  try clear q488
                  try clear q489
                  try clear q490
                  try clear q75
                  obtain ⟨kq, x142_86, rfl, HA, HJ86, HO_8, HO_16, HB⟩ := hcut
                  cases kq with
                  | zero => exact absurd HA.out (by simp [cohousinglaw28_FlowSubmeters.j5])
                  | succ kj86 =>
                   have H := HA.out
                   clear HA
                   simp only [cohousinglaw28_FlowSubmeters.j5] at H
                   by_cases c92 : x142_86 = true
                   ·subst c92
                    have H1 : (some false) = some r := by rw [if_pos rfl] at H; exact H
                    clear H
                    have H := H1
                    clear H1
                    obtain rfl := Option.some.inj H
                    go_wp2
                    go_ret
                    exact ⟨by first | rfl | (simp [errW_none, errW_some] <;> rfl) | (simp [*, errW_none, errW_some] <;> rfl), by repeat (first | (with_reducible first | exact HB.out | apply below_alloc | apply pw_below_drewN | apply below_drew1) | exact HB.out)⟩
                   ·replace c92 := Bool.eq_false_iff.mpr c92
                    subst c92
                    have H1 : (cohousinglaw28_FlowSubmeters.l4 kj86 t460 x8_4 t492 (t492.length : Int) 0) = some r := by rw [if_neg (show ¬ (false = true) by decide)] at H; exact H
                    clear H
                    have H := H1
                    clear H1
                    have H' := Aside0.mk H
                    clear H
                    obtain ⟨Ao93, co93, eo93⟩ := Kd.R_slice HO_16.out
                    subst eo93
                    go_wp2
                    go_loopg [5, 145] kj86 (fun kq v5 v145 w' => ∃ (x5_6 : Bool) (x145_6 : Int), v5 = .bool x5_6 ∧ v145 = .int .i64 x145_6 ∧ Aside0 (cohousinglaw28_FlowSubmeters.l4 kq x5_6 x8_4 t492 (t492.length : Int) x145_6 = some r) ∧ Aside0 (kq ≤ kj86) ∧ Aside0 (Kd.R (Kd.int .i64) 3 w' w.heap.size (fun _ => True) v470 x8_4) ∧ Aside0 (Kd.R k39 39 w' w.heap.size (fun _ => True) (.slice Ao93 t492.length co93) t492) ∧ Aside0 (Below w.heap.size w w'))
                    case atStart => exact ⟨(t460), (0), (by first | rfl | (simp; done) | (simp [*]; done)), (by first | rfl | (simp; done) | (simp [*]; done)), H', ⟨Nat.le_refl _⟩, ⟨by (try simp only [hl6_1]); (with_reducible repeat (first | apply Kd.R_alloc | apply Kd.R_drewN | apply Kd.R_drew)); exact HO_8.out⟩, ⟨by (try simp only [hl6_1]); (with_reducible repeat (first | apply Kd.R_alloc | apply Kd.R_drewN | apply Kd.R_drew)); exact HO_16.out⟩, ⟨by repeat (first | (with_reducible first | exact HB.out | apply below_alloc | apply pw_below_drewN | apply below_drew1) | exact HB.out)⟩⟩
                    case round =>
                     clear H'
                     try clear c1
                     try clear p1
                     try clear q1
                     try clear hx1
                     try clear p2
                     try clear p3
                     try clear q3
                     try clear hx3
                     try clear p4
                     try clear q4
                     try clear hx4
                     try clear c5
                     try clear c6
                     try clear p6
                     try clear c7
                     try clear p7
                     try clear q7
                     try clear hx7
                     try clear hf7
                     try clear c8
                     try clear c9
                     try clear c11
                     try clear p13
                     try clear q13
                     try clear hx13
                     try clear hx14
                     try clear p33
                     try clear q33
                     try clear hx33
                     try clear p45
                     try clear q45
                     try clear hx45
                     try clear p47
                     try clear q47
                     try clear hx47
                     try clear p48
                     try clear q48
                     try clear hx48
                     try clear p49
                     try clear q49
                     try clear hx49
                     try clear c56
                     try clear c62
                     try clear c62b0
                     try clear c63
                     try clear c63b0
                     try clear c64
                     try clear c64b0
                     try clear p64
                     try clear c67
                     try clear c67b0
                     try clear c68
                     try clear c68b0
                     try clear c69
                     try clear c69b0
                     try clear c70
                     try clear c70b0
                     try clear c71
                     try clear c71b0
                     try clear c72
                     try clear c72b0
                     try clear c72b1
                     try clear c73
                     try clear c73b0
                     try clear c74
                     try clear c74b0
                     try clear p75
                     try clear q75
                     try clear hx75
                     try clear hf75
                     try clear c81
                     try clear c81b0
                     try clear c82
                     try clear c90
                     try clear c90b0
                     try clear c90b1
                     try clear c92
                     try clear hcz36_0
                     try clear hcz36_1
                     try clear hcz38_0
                     try clear hcz38_1
                     try clear hcz42_0
                     try clear hcz42_1
                     try clear hcz48_0
                     try clear hcz48_1
                     try clear hcz50_0
                     try clear hcz50_1
                     try clear hcz54_0
                     try clear hcz54_1
                     try clear hcz58_0
                     try clear hcz58_1
                     try clear hcz60_0
                     try clear hcz60_1
                     try clear hfz36_0
                     try clear hfz36_1
                     try clear hfz38_0
                     try clear hfz38_1
                     try clear hfz42_0
                     try clear hfz42_1
                     try clear hfz48_0
                     try clear hfz48_1
                     try clear hfz50_0
                     try clear hfz50_1
                     try clear hfz54_0
                     try clear hfz54_1
                     try clear hfz58_0
                     try clear hfz58_1
                     try clear hfz60_0
                     try clear hfz60_1
                     try clear hx13_0
                     try clear hx13_1
                     try clear hx13_2
                     try clear hx14_2
                     try clear hx33_0
                     try clear hx45_0
                     try clear hx474_0
                     try clear hx486_0
                     try clear hx487_0
                     try clear hx487_1
                     try clear hx487_2
                     try clear hx488_0
                     try clear hx488_1
                     try clear hx488_2
                     try clear hx489_0
                     try clear hx490_0
                     try clear hx75_0
                     try clear p1
                     try clear p13
                     try clear p2
                     try clear p3
                     try clear p33
                     try clear p4
                     try clear p45
                     try clear p47
                     try clear p474
                     try clear p48
                     try clear p486
                     try clear p487
                     try clear p488
                     try clear p489
                     try clear p49
                     try clear p490
                     try clear p6
                     try clear p64
                     try clear p7
                     try clear p75
                     try clear q1
                     try clear q13
                     try clear q3
                     try clear q33
                     try clear q4
                     try clear q45
                     try clear q47
                     try clear q474
                     try clear q48
                     try clear q486
                     try clear q487
                     try clear q488
                     try clear q489
                     try clear q49
                     try clear q490
                     try clear q7
                     try clear q75
                     obtain ⟨x5_6, x145_6, rfl, rfl, HA, HK6, HO_8, HO_16, HB⟩ := hrel
                     cases gk with
                     | zero => exact absurd HA.out (by simp [cohousinglaw28_FlowSubmeters.l4])
                     | succ k6 =>
                      have H := HA.out
                      clear HA
                      simp only [cohousinglaw28_FlowSubmeters.l4] at H
                      by_cases c94 : x145_6 < (t492.length : Int)
                      ·rw [if_pos c94] at H
                       have c94b0 : decide (x145_6 < (t492.length : Int)) = true := decide_eq_true c94
                       clear c94
                       by_cases c95 : x5_6 = true
                       ·subst c95
                        have H1 : (if 0 ≤ x145_6 then (if x145_6 < (t492.length : Int) then (if x145_6 < (x8_4.length : Int) then (if ((rd_T39 t492 x145_6).f0) = (rd x8_4 x145_6) then (cohousinglaw28_FlowSubmeters.l4 k6 (((rd_T39 t492 x145_6).f1) == (rd x8_4 x145_6)) x8_4 t492 (t492.length : Int) (wrap64 (x145_6 + 1))) else (cohousinglaw28_FlowSubmeters.l4 k6 false x8_4 t492 (t492.length : Int) (wrap64 (x145_6 + 1)))) else (none)) else (none)) else (none)) = some r := by rw [if_pos rfl] at H; exact H
                        clear H
                        have H := H1
                        clear H1
                        by_cases c96 : 0 ≤ x145_6
                        ·rw [if_pos c96] at H
                         have c96b0 : decide (0 ≤ x145_6) = true := decide_eq_true c96
                         clear c96
                         by_cases c97 : x145_6 < (t492.length : Int)
                         ·rw [if_pos c97] at H
                          have c97b0 : decide (x145_6 < (t492.length : Int)) = true := decide_eq_true c97
                          clear c97
                          by_cases c98 : x145_6 < (x8_4.length : Int)
                          ·rw [if_pos c98] at H
                           have c98b0 : decide (x145_6 < (x8_4.length : Int)) = true := decide_eq_true c98
                           clear c98
                           by_cases c99 : ((rd_T39 t492 x145_6).f0) = (rd x8_4 x145_6)
                           ·rw [if_pos c99] at H
                            have c99b0 : (((rd_T39 t492 x145_6).f0) == (rd x8_4 x145_6)) = true := beq_iff_eq.mpr c99
                            have c99b1 : (((rd_T39 t492 x145_6).f0) != (rd x8_4 x145_6)) = false := bne_eq_false_iff_eq.mpr c99
                            clear c99
                            have H' := Aside0.mk H
                            clear H
                            try go_wp2
                            have n0_ := Aside0.mk (Kd.R_drew HO_8.out)
                            have n1_ := Aside0.mk (Kd.R_drew HO_16.out)
                            have n2_ := Aside0.mk (below_drew1 HB.out)
                            clear HO_8
                            clear HO_16
                            clear HB
                            have HO_8 := n0_
                            have HO_16 := n1_
                            have HB := n2_
                            clear n0_ n1_ n2_
                            have p496 : 0 ≤ (x145_6 : Int) := of_decide_eq_true (by first | (with_reducible assumption) | assumption)
                            have q496 : x145_6 < (t492.length : Int) := of_decide_eq_true (by first | (with_reducible assumption) | assumption)
                            obtain ⟨ad496, e496, hx496_0, hx496_1⟩ := at_T39 (Kd.R_reads' HO_16.out).2.2 x145_6 p496 q496
                            cases e496
                            replace p496 := eq_true p496
                            replace q496 := eq_true q496
                            obtain ⟨Ao101, co101, eo101⟩ := Kd.R_slice HO_8.out
                            (first | subst eo101 | (injection eo101 with f1_ f2_ f3_; have f4_ := f1_.symm; have f5_ := f3_.symm; clear f1_ f2_ f3_; subst f4_; subst f5_))
                            have p497 : 0 ≤ (x145_6 : Int) := of_decide_eq_true (by first | (with_reducible assumption) | assumption)
                            have q497 : x145_6 < (x8_4.length : Int) := of_decide_eq_true (by first | (with_reducible assumption) | assumption)
                            obtain ⟨ad497, e497, hx497_0⟩ := Kd.at_int (Kd.R_reads' HO_8.out).2.2 x145_6 p497 q497
                            cases e497
                            replace p497 := eq_true p497
                            replace q497 := eq_true q497
                            have p498 : 0 ≤ (x145_6 : Int) := of_decide_eq_true (by first | (with_reducible assumption) | assumption)
                            have q498 : x145_6 < (t492.length : Int) := of_decide_eq_true (by first | (with_reducible assumption) | assumption)
                            obtain ⟨ad498, e498, hx498_0, hx498_1⟩ := at_T39 (Kd.R_reads' HO_16.out).2.2 x145_6 p498 q498
                            obtain rfl : ad496 = ad498 := (by injection e498)
                            replace p498 := eq_true p498
                            replace q498 := eq_true q498
                            have p499 : 0 ≤ (x145_6 : Int) := of_decide_eq_true (by first | (with_reducible assumption) | assumption)
                            have q499 : x145_6 < (x8_4.length : Int) := of_decide_eq_true (by first | (with_reducible assumption) | assumption)
                            obtain ⟨ad499, e499, hx499_0⟩ := Kd.at_int (Kd.R_reads' HO_8.out).2.2 x145_6 p499 q499
                            obtain rfl : ad497 = ad499 := (by injection e499)
                            replace p499 := eq_true p499
                            replace q499 := eq_true q499
                            refine start_ (n := 26) (S := fun w' => w'.cell? (ad496.add ((x145_6).toNat * 2)) = some (.int .i64 ((rd_T39 t492 x145_6).f0)) ∧ w'.cell? ⟨(ad496.add ((x145_6).toNat * 2)).block, (ad496.add ((x145_6).toNat * 2)).off + 1, none⟩ = some (.int .i64 ((rd_T39 t492 x145_6).f1)) ∧ w'.cell? (ad497.add (x145_6).toNat) = some (.int .i64 (rd x8_4 x145_6)) ∧ w'.cell? (ad496.add ((x145_6).toNat * 2)) = some (.int .i64 ((rd_T39 t492 x145_6).f0)) ∧ w'.cell? ⟨(ad496.add ((x145_6).toNat * 2)).block, (ad496.add ((x145_6).toNat * 2)).off + 1, none⟩ = some (.int .i64 ((rd_T39 t492 x145_6).f1)) ∧ w'.cell? (ad497.add (x145_6).toNat) = some (.int .i64 (rd x8_4 x145_6))) (ds := []) #[n_, n_, n_, n_, n_, n_, n_, n_, n_, n_, n_, n_, n_, n_, n_, n_, n_, n_, n_, n_, n_, n_, n_, n_, n_, n_] (by kernel_rfl) rfl rfl ⟨hx496_0, hx496_1, hx497_0, hx498_0, hx498_1, hx499_0⟩ (fun hHeld => ?_); refine with_tabW cohousinglaw28_FlowSubmeters.tab42 cohousinglaw28_FlowSubmeters.bits42 (fun HT_ HW_ => ?_)
                            generalize wr.drew = w100 at HO_8 HO_16 HB hx496_0 hx496_1 hx497_0 hx498_0 hx498_1 hx499_0 hHeld ⊢
                            refine pure_ (i := 0) (N := some 148) (v := ?_) (a' := ?_) #[y_, n_, n_, n_, n_, n_, n_, n_, n_, n_, n_, n_, n_, n_, n_, n_, n_, n_, n_, n_, n_, n_, n_, n_, n_, n_] rfl rfl (any_of HT_.out (by kernel_rfl)) (fun _ _ _ h => h) (Or.inl ⟨by rfl, ?_⟩) ?_ ?_
                            rotate_left
                            ·intro w'
                             go_simp
                             with_reducible rfl
                            rotate_left
                            ·simp only [Act.put, sI_, s0_, sS_, i64_w, i32_w]
                             rfl
                            refine pure_ (i := 1) (N := some 149) (v := ?_) (a' := ?_) #[y_, y_, n_, n_, n_, n_, n_, n_, n_, n_, n_, n_, n_, n_, n_, n_, n_, n_, n_, n_, n_, n_, n_, n_, n_, n_] rfl rfl (any_of HT_.out (by kernel_rfl)) (fun _ _ _ h => h) (Or.inl ⟨by rfl, ?_⟩) ?_ ?_
                            rotate_left
                            ·intro w'
                             go_simp
                             with_reducible rfl
                            rotate_left
                            ·simp only [Act.put, sI_, s0_, sS_, i64_w, i32_w]
                             rfl
                            refine pure_ (i := 2) (N := some 150) (v := ?_) (a' := ?_) #[y_, y_, y_, n_, n_, n_, n_, n_, n_, n_, n_, n_, n_, n_, n_, n_, n_, n_, n_, n_, n_, n_, n_, n_, n_, n_] rfl rfl (any_of HT_.out (by kernel_rfl)) (fun _ _ _ h => h) (Or.inl ⟨by rfl, ?_⟩) ?_ ?_
                            rotate_left
                            ·intro w'
                             go_simp
                             with_reducible rfl
                            rotate_left
                            ·simp only [Act.put, sI_, s0_, sS_, i64_w, i32_w]
                             rfl
                            refine pure_ (i := 3) (N := some 151) (v := ?_) (a' := ?_) #[y_, y_, y_, y_, n_, n_, n_, n_, n_, n_, n_, n_, n_, n_, n_, n_, n_, n_, n_, n_, n_, n_, n_, n_, n_, n_] rfl rfl (any_of HT_.out (by kernel_rfl)) (fun _ _ _ h => h) (Or.inl ⟨by rfl, ?_⟩) ?_ ?_
                            rotate_left
                            ·intro w'
                             go_simp
                             with_reducible rfl
                            rotate_left
                            ·simp only [Act.put, sI_, s0_, sS_, i64_w, i32_w]
                             rfl
                            refine pure_ (i := 4) (N := some 152) (v := ?_) (a' := ?_) #[y_, y_, y_, y_, y_, n_, n_, n_, n_, n_, n_, n_, n_, n_, n_, n_, n_, n_, n_, n_, n_, n_, n_, n_, n_, n_] rfl rfl (any_of HT_.out (by kernel_rfl)) (fun _ _ _ h => h) (Or.inl ⟨by rfl, ?_⟩) ?_ ?_
                            rotate_left
                            ·intro w'
                             go_simp
                             with_reducible rfl
                            rotate_left
                            ·simp only [Act.put, sI_, s0_, sS_, i64_w, i32_w]
                             rfl
                            refine pure_ (i := 5) (N := some 153) (v := ?_) (a' := ?_) #[y_, y_, y_, y_, y_, y_, n_, n_, n_, n_, n_, n_, n_, n_, n_, n_, n_, n_, n_, n_, n_, n_, n_, n_, n_, n_] rfl rfl (any_of HT_.out (by kernel_rfl)) (fun _ _ _ h => h) (Or.inl ⟨by rfl, ?_⟩) ?_ ?_
                            rotate_left
                            ·intro w'
                             go_simp
                             with_reducible rfl
                            rotate_left
                            ·simp only [Act.put, sI_, s0_, sS_, i64_w, i32_w]
                             rfl
                            refine pure_ (i := 7) (N := some 155) (v := ?_) (a' := ?_) #[y_, y_, y_, y_, y_, y_, n_, y_, n_, n_, n_, n_, n_, n_, n_, n_, n_, n_, n_, n_, n_, n_, n_, n_, n_, n_] rfl rfl (any_of HT_.out (by kernel_rfl)) (fun _ _ _ h => h) (Or.inl ⟨by rfl, ?_⟩) ?_ ?_
                            rotate_left
                            ·intro w'
                             go_simp
                             with_reducible rfl
                            rotate_left
                            ·simp only [Act.put, sI_, s0_, sS_, i64_w, i32_w]
                             rfl
                            refine pure_ (i := 8) (N := some 156) (v := ?_) (a' := ?_) #[y_, y_, y_, y_, y_, y_, n_, y_, y_, n_, n_, n_, n_, n_, n_, n_, n_, n_, n_, n_, n_, n_, n_, n_, n_, n_] rfl rfl (any_of HT_.out (by kernel_rfl)) (fun _ _ _ h => h) (Or.inl ⟨by rfl, ?_⟩) ?_ ?_
                            rotate_left
                            ·intro w'
                             go_simp
                             with_reducible rfl
                            rotate_left
                            ·simp only [Act.put, sI_, s0_, sS_, i64_w, i32_w]
                             rfl
                            refine pure_ (i := 9) (N := some 157) (v := ?_) (a' := ?_) #[y_, y_, y_, y_, y_, y_, n_, y_, y_, y_, n_, n_, n_, n_, n_, n_, n_, n_, n_, n_, n_, n_, n_, n_, n_, n_] rfl rfl (any_of HT_.out (by kernel_rfl)) (fun _ _ _ h => h) (Or.inl ⟨by rfl, ?_⟩) ?_ ?_
                            rotate_left
                            ·intro w'
                             go_simp
                             with_reducible rfl
                            rotate_left
                            ·simp only [Act.put, sI_, s0_, sS_, i64_w, i32_w]
                             rfl
                            refine take_ (i := 6) (N := some 154) (v := ?_) (a' := ?_) #[y_, y_, y_, y_, y_, y_, y_, y_, y_, y_, n_, n_, n_, n_, n_, n_, n_, n_, n_, n_, n_, n_, n_, n_, n_, n_] rfl rfl (take_ofW HT_.out HW_.out (by kernel_rfl)) (fun _ _ _ h => h) (Or.inl ⟨by rfl, ?_⟩) hHeld ?_ ?_
                            rotate_left
                            ·rintro w' ⟨s0, s1, s2, s3, s4, s5⟩
                             go_simp
                             with_reducible rfl
                            rotate_left
                            ·simp only [Act.put, sI_, s0_, sS_, i64_w, i32_w]
                             rfl
                            refine take_ (i := 10) (N := some 158) (v := ?_) (a' := ?_) #[y_, y_, y_, y_, y_, y_, y_, y_, y_, y_, y_, n_, n_, n_, n_, n_, n_, n_, n_, n_, n_, n_, n_, n_, n_, n_] rfl rfl (take_ofW HT_.out HW_.out (by kernel_rfl)) (fun _ _ _ h => h) (Or.inl ⟨by rfl, ?_⟩) hHeld ?_ ?_
                            rotate_left
                            ·rintro w' ⟨s0, s1, s2, s3, s4, s5⟩
                             go_simp
                             with_reducible rfl
                            rotate_left
                            ·simp only [Act.put, sI_, s0_, sS_, i64_w, i32_w]
                             rfl
                            refine pure_ (i := 11) (N := some 159) (v := ?_) (a' := ?_) #[y_, y_, y_, y_, y_, y_, y_, y_, y_, y_, y_, y_, n_, n_, n_, n_, n_, n_, n_, n_, n_, n_, n_, n_, n_, n_] rfl rfl (any_of HT_.out (by kernel_rfl)) (fun _ _ _ h => h) (Or.inl ⟨by rfl, ?_⟩) ?_ ?_
                            rotate_left
                            ·intro w'
                             go_simp
                             with_reducible rfl
                            rotate_left
                            ·simp only [Act.put, sI_, s0_, sS_, i64_w, i32_w]
                             rfl
                            refine pure_ (i := 12) (N := some 160) (v := ?_) (a' := ?_) #[y_, y_, y_, y_, y_, y_, y_, y_, y_, y_, y_, y_, y_, n_, n_, n_, n_, n_, n_, n_, n_, n_, n_, n_, n_, n_] rfl rfl (any_of HT_.out (by kernel_rfl)) (fun _ _ _ h => h) (Or.inl ⟨by rfl, ?_⟩) ?_ ?_
                            rotate_left
                            ·intro w'
                             go_simp
                             with_reducible rfl
                            rotate_left
                            ·simp only [Act.put, sI_, s0_, sS_, i64_w, i32_w]
                             rfl
                            refine pure_ (i := 13) (N := some 161) (v := ?_) (a' := ?_) #[y_, y_, y_, y_, y_, y_, y_, y_, y_, y_, y_, y_, y_, y_, n_, n_, n_, n_, n_, n_, n_, n_, n_, n_, n_, n_] rfl rfl (any_of HT_.out (by kernel_rfl)) (fun _ _ _ h => h) (Or.inl ⟨by rfl, ?_⟩) ?_ ?_
                            rotate_left
                            ·intro w'
                             go_simp
                             with_reducible rfl
                            rotate_left
                            ·simp only [Act.put, sI_, s0_, sS_, i64_w, i32_w]
                             rfl
                            refine pure_ (i := 14) (N := some 162) (v := ?_) (a' := ?_) #[y_, y_, y_, y_, y_, y_, y_, y_, y_, y_, y_, y_, y_, y_, y_, n_, n_, n_, n_, n_, n_, n_, n_, n_, n_, n_] rfl rfl (any_of HT_.out (by kernel_rfl)) (fun _ _ _ h => h) (Or.inl ⟨by rfl, ?_⟩) ?_ ?_
                            rotate_left
                            ·intro w'
                             go_simp
                             with_reducible rfl
                            rotate_left
                            ·simp only [Act.put, sI_, s0_, sS_, i64_w, i32_w]
                             rfl
                            refine pure_ (i := 15) (N := some 163) (v := ?_) (a' := ?_) #[y_, y_, y_, y_, y_, y_, y_, y_, y_, y_, y_, y_, y_, y_, y_, y_, n_, n_, n_, n_, n_, n_, n_, n_, n_, n_] rfl rfl (any_of HT_.out (by kernel_rfl)) (fun _ _ _ h => h) (Or.inl ⟨by rfl, ?_⟩) ?_ ?_
                            rotate_left
                            ·intro w'
                             go_simp
                             with_reducible rfl
                            rotate_left
                            ·simp only [Act.put, sI_, s0_, sS_, i64_w, i32_w]
                             rfl
                            refine pure_ (i := 16) (N := some 164) (v := ?_) (a' := ?_) #[y_, y_, y_, y_, y_, y_, y_, y_, y_, y_, y_, y_, y_, y_, y_, y_, y_, n_, n_, n_, n_, n_, n_, n_, n_, n_] rfl rfl (any_of HT_.out (by kernel_rfl)) (fun _ _ _ h => h) (Or.inl ⟨by rfl, ?_⟩) ?_ ?_
                            rotate_left
                            ·intro w'
                             go_simp
                             with_reducible rfl
                            rotate_left
                            ·simp only [Act.put, sI_, s0_, sS_, i64_w, i32_w]
                             rfl
                            refine pure_ (i := 17) (N := some 165) (v := ?_) (a' := ?_) #[y_, y_, y_, y_, y_, y_, y_, y_, y_, y_, y_, y_, y_, y_, y_, y_, y_, y_, n_, n_, n_, n_, n_, n_, n_, n_] rfl rfl (any_of HT_.out (by kernel_rfl)) (fun _ _ _ h => h) (Or.inl ⟨by rfl, ?_⟩) ?_ ?_
                            rotate_left
                            ·intro w'
                             go_simp
                             with_reducible rfl
                            rotate_left
                            ·simp only [Act.put, sI_, s0_, sS_, i64_w, i32_w]
                             rfl
                            refine pure_ (i := 19) (N := some 167) (v := ?_) (a' := ?_) #[y_, y_, y_, y_, y_, y_, y_, y_, y_, y_, y_, y_, y_, y_, y_, y_, y_, y_, n_, y_, n_, n_, n_, n_, n_, n_] rfl rfl (any_of HT_.out (by kernel_rfl)) (fun _ _ _ h => h) (Or.inl ⟨by rfl, ?_⟩) ?_ ?_
                            rotate_left
                            ·intro w'
                             go_simp
                             with_reducible rfl
                            rotate_left
                            ·simp only [Act.put, sI_, s0_, sS_, i64_w, i32_w]
                             rfl
                            refine pure_ (i := 20) (N := some 168) (v := ?_) (a' := ?_) #[y_, y_, y_, y_, y_, y_, y_, y_, y_, y_, y_, y_, y_, y_, y_, y_, y_, y_, n_, y_, y_, n_, n_, n_, n_, n_] rfl rfl (any_of HT_.out (by kernel_rfl)) (fun _ _ _ h => h) (Or.inl ⟨by rfl, ?_⟩) ?_ ?_
                            rotate_left
                            ·intro w'
                             go_simp
                             with_reducible rfl
                            rotate_left
                            ·simp only [Act.put, sI_, s0_, sS_, i64_w, i32_w]
                             rfl
                            refine pure_ (i := 21) (N := some 169) (v := ?_) (a' := ?_) #[y_, y_, y_, y_, y_, y_, y_, y_, y_, y_, y_, y_, y_, y_, y_, y_, y_, y_, n_, y_, y_, y_, n_, n_, n_, n_] rfl rfl (any_of HT_.out (by kernel_rfl)) (fun _ _ _ h => h) (Or.inl ⟨by rfl, ?_⟩) ?_ ?_
                            rotate_left
                            ·intro w'
                             go_simp
                             with_reducible rfl
                            rotate_left
                            ·simp only [Act.put, sI_, s0_, sS_, i64_w, i32_w]
                             rfl
                            refine take_ (i := 18) (N := some 166) (v := ?_) (a' := ?_) #[y_, y_, y_, y_, y_, y_, y_, y_, y_, y_, y_, y_, y_, y_, y_, y_, y_, y_, y_, y_, y_, y_, n_, n_, n_, n_] rfl rfl (take_ofW HT_.out HW_.out (by kernel_rfl)) (fun _ _ _ h => h) (Or.inl ⟨by rfl, ?_⟩) hHeld ?_ ?_
                            rotate_left
                            ·rintro w' ⟨s0, s1, s2, s3, s4, s5⟩
                             go_simp
                             with_reducible rfl
                            rotate_left
                            ·simp only [Act.put, sI_, s0_, sS_, i64_w, i32_w]
                             rfl
                            refine take_ (i := 22) (N := some 170) (v := ?_) (a' := ?_) #[y_, y_, y_, y_, y_, y_, y_, y_, y_, y_, y_, y_, y_, y_, y_, y_, y_, y_, y_, y_, y_, y_, y_, n_, n_, n_] rfl rfl (take_ofW HT_.out HW_.out (by kernel_rfl)) (fun _ _ _ h => h) (Or.inl ⟨by rfl, ?_⟩) hHeld ?_ ?_
                            rotate_left
                            ·rintro w' ⟨s0, s1, s2, s3, s4, s5⟩
                             go_simp
                             with_reducible rfl
                            rotate_left
                            ·simp only [Act.put, sI_, s0_, sS_, i64_w, i32_w]
                             rfl
                            refine pure_ (i := 23) (N := some 171) (v := ?_) (a' := ?_) #[y_, y_, y_, y_, y_, y_, y_, y_, y_, y_, y_, y_, y_, y_, y_, y_, y_, y_, y_, y_, y_, y_, y_, y_, n_, n_] rfl rfl (any_of HT_.out (by kernel_rfl)) (fun _ _ _ h => h) (Or.inl ⟨by rfl, ?_⟩) ?_ ?_
                            rotate_left
                            ·intro w'
                             go_simp
                             with_reducible rfl
                            rotate_left
                            ·simp only [Act.put, sI_, s0_, sS_, i64_w, i32_w]
                             rfl
                            refine pure_ (i := 24) (N := some 172) (v := ?_) (a' := ?_) #[y_, y_, y_, y_, y_, y_, y_, y_, y_, y_, y_, y_, y_, y_, y_, y_, y_, y_, y_, y_, y_, y_, y_, y_, y_, n_] rfl rfl (any_of HT_.out (by kernel_rfl)) (fun _ _ _ h => h) (Or.inl ⟨by rfl, ?_⟩) ?_ ?_
                            rotate_left
                            ·intro w'
                             go_simp
                             with_reducible rfl
                            rotate_left
                            ·simp only [Act.put, sI_, s0_, sS_, i64_w, i32_w]
                             rfl
                            refine pure_ (i := 25) (N := some 5) (v := ?_) (a' := ?_) #[y_, y_, y_, y_, y_, y_, y_, y_, y_, y_, y_, y_, y_, y_, y_, y_, y_, y_, y_, y_, y_, y_, y_, y_, y_, y_] rfl rfl (any_of HT_.out (by kernel_rfl)) (fun _ _ _ h => h) (Or.inl ⟨by rfl, ?_⟩) ?_ ?_
                            rotate_left
                            ·intro w'
                             go_simp
                             with_reducible rfl
                            rotate_left
                            ·simp only [Act.put, sI_, s0_, sS_, i64_w, i32_w]
                             rfl
                            refine done_ (done_of HT_.out (by kernel_rfl)) ?_
                            try go_wp2
                            go_roundg k6
                            case measure => have := HK1.out; have := HJ15.out; have := HK3.out; have := HK4.out; have := HJ86.out; have := HK6.out; omega
                            case rel => exact ⟨((((rd_T39 t492 x145_6).f1) == (rd x8_4 x145_6))), (wrap64 (x145_6 + 1)), (by first | rfl | (simp; done) | (simp [*]; done)), (by first | rfl | (simp; done) | (simp [*]; done)), H', ⟨by have := HK1.out; have := HJ15.out; have := HK3.out; have := HK4.out; have := HJ86.out; have := HK6.out; omega⟩, ⟨by (try simp only [hl6_1]); (with_reducible repeat (first | apply Kd.R_alloc | apply Kd.R_drewN | apply Kd.R_drew)); exact HO_8.out⟩, ⟨by (try simp only [hl6_1]); (with_reducible repeat (first | apply Kd.R_alloc | apply Kd.R_drewN | apply Kd.R_drew)); exact HO_16.out⟩, ⟨by repeat (first | (with_reducible first | exact HB.out | apply below_alloc | apply pw_below_drewN | apply below_drew1) | exact HB.out)⟩⟩
                           ·rw [if_neg c99] at H
                            have c99b0 : (((rd_T39 t492 x145_6).f0) == (rd x8_4 x145_6)) = false := beq_eq_false_iff_ne.mpr c99
                            have c99b1 : (((rd_T39 t492 x145_6).f0) != (rd x8_4 x145_6)) = true := bne_iff_ne.mpr c99
                            have H' := Aside0.mk H
                            clear H
                            try go_wp2
                            have n0_ := Aside0.mk (Kd.R_drew HO_8.out)
                            have n1_ := Aside0.mk (Kd.R_drew HO_16.out)
                            have n2_ := Aside0.mk (below_drew1 HB.out)
                            clear HO_8
                            clear HO_16
                            clear HB
                            have HO_8 := n0_
                            have HO_16 := n1_
                            have HB := n2_
                            clear n0_ n1_ n2_
                            have p496 : 0 ≤ (x145_6 : Int) := of_decide_eq_true (by first | (with_reducible assumption) | assumption)
                            have q496 : x145_6 < (t492.length : Int) := of_decide_eq_true (by first | (with_reducible assumption) | assumption)
                            obtain ⟨ad496, e496, hx496_0, hx496_1⟩ := at_T39 (Kd.R_reads' HO_16.out).2.2 x145_6 p496 q496
                            cases e496
                            replace p496 := eq_true p496
                            replace q496 := eq_true q496
                            obtain ⟨Ao103, co103, eo103⟩ := Kd.R_slice HO_8.out
                            (first | subst eo103 | (injection eo103 with f1_ f2_ f3_; have f4_ := f1_.symm; have f5_ := f3_.symm; clear f1_ f2_ f3_; subst f4_; subst f5_))
                            have p497 : 0 ≤ (x145_6 : Int) := of_decide_eq_true (by first | (with_reducible assumption) | assumption)
                            have q497 : x145_6 < (x8_4.length : Int) := of_decide_eq_true (by first | (with_reducible assumption) | assumption)
                            obtain ⟨ad497, e497, hx497_0⟩ := Kd.at_int (Kd.R_reads' HO_8.out).2.2 x145_6 p497 q497
                            cases e497
                            replace p497 := eq_true p497
                            replace q497 := eq_true q497
                            refine start_ (n := 26) (S := fun w' => w'.cell? (ad496.add ((x145_6).toNat * 2)) = some (.int .i64 ((rd_T39 t492 x145_6).f0)) ∧ w'.cell? ⟨(ad496.add ((x145_6).toNat * 2)).block, (ad496.add ((x145_6).toNat * 2)).off + 1, none⟩ = some (.int .i64 ((rd_T39 t492 x145_6).f1)) ∧ w'.cell? (ad497.add (x145_6).toNat) = some (.int .i64 (rd x8_4 x145_6))) (ds := []) #[n_, n_, n_, n_, n_, n_, n_, n_, n_, n_, n_, n_, n_, n_, n_, n_, n_, n_, n_, n_, n_, n_, n_, n_, n_, n_] (by kernel_rfl) rfl rfl ⟨hx496_0, hx496_1, hx497_0⟩ (fun hHeld => ?_); refine with_tabW cohousinglaw28_FlowSubmeters.tab42 cohousinglaw28_FlowSubmeters.bits42 (fun HT_ HW_ => ?_)
                            generalize wr.drew = w102 at HO_8 HO_16 HB hx496_0 hx496_1 hx497_0 hHeld ⊢
                            refine pure_ (i := 0) (N := some 148) (v := ?_) (a' := ?_) #[y_, n_, n_, n_, n_, n_, n_, n_, n_, n_, n_, n_, n_, n_, n_, n_, n_, n_, n_, n_, n_, n_, n_, n_, n_, n_] rfl rfl (any_of HT_.out (by kernel_rfl)) (fun _ _ _ h => h) (Or.inl ⟨by rfl, ?_⟩) ?_ ?_
                            rotate_left
                            ·intro w'
                             go_simp
                             with_reducible rfl
                            rotate_left
                            ·simp only [Act.put, sI_, s0_, sS_, i64_w, i32_w]
                             rfl
                            refine pure_ (i := 1) (N := some 149) (v := ?_) (a' := ?_) #[y_, y_, n_, n_, n_, n_, n_, n_, n_, n_, n_, n_, n_, n_, n_, n_, n_, n_, n_, n_, n_, n_, n_, n_, n_, n_] rfl rfl (any_of HT_.out (by kernel_rfl)) (fun _ _ _ h => h) (Or.inl ⟨by rfl, ?_⟩) ?_ ?_
                            rotate_left
                            ·intro w'
                             go_simp
                             with_reducible rfl
                            rotate_left
                            ·simp only [Act.put, sI_, s0_, sS_, i64_w, i32_w]
                             rfl
                            refine pure_ (i := 2) (N := some 150) (v := ?_) (a' := ?_) #[y_, y_, y_, n_, n_, n_, n_, n_, n_, n_, n_, n_, n_, n_, n_, n_, n_, n_, n_, n_, n_, n_, n_, n_, n_, n_] rfl rfl (any_of HT_.out (by kernel_rfl)) (fun _ _ _ h => h) (Or.inl ⟨by rfl, ?_⟩) ?_ ?_
                            rotate_left
                            ·intro w'
                             go_simp
                             with_reducible rfl
                            rotate_left
                            ·simp only [Act.put, sI_, s0_, sS_, i64_w, i32_w]
                             rfl
                            refine pure_ (i := 3) (N := some 151) (v := ?_) (a' := ?_) #[y_, y_, y_, y_, n_, n_, n_, n_, n_, n_, n_, n_, n_, n_, n_, n_, n_, n_, n_, n_, n_, n_, n_, n_, n_, n_] rfl rfl (any_of HT_.out (by kernel_rfl)) (fun _ _ _ h => h) (Or.inl ⟨by rfl, ?_⟩) ?_ ?_
                            rotate_left
                            ·intro w'
                             go_simp
                             with_reducible rfl
                            rotate_left
                            ·simp only [Act.put, sI_, s0_, sS_, i64_w, i32_w]
                             rfl
                            refine pure_ (i := 4) (N := some 152) (v := ?_) (a' := ?_) #[y_, y_, y_, y_, y_, n_, n_, n_, n_, n_, n_, n_, n_, n_, n_, n_, n_, n_, n_, n_, n_, n_, n_, n_, n_, n_] rfl rfl (any_of HT_.out (by kernel_rfl)) (fun _ _ _ h => h) (Or.inl ⟨by rfl, ?_⟩) ?_ ?_
                            rotate_left
                            ·intro w'
                             go_simp
                             with_reducible rfl
                            rotate_left
                            ·simp only [Act.put, sI_, s0_, sS_, i64_w, i32_w]
                             rfl
                            refine pure_ (i := 5) (N := some 153) (v := ?_) (a' := ?_) #[y_, y_, y_, y_, y_, y_, n_, n_, n_, n_, n_, n_, n_, n_, n_, n_, n_, n_, n_, n_, n_, n_, n_, n_, n_, n_] rfl rfl (any_of HT_.out (by kernel_rfl)) (fun _ _ _ h => h) (Or.inl ⟨by rfl, ?_⟩) ?_ ?_
                            rotate_left
                            ·intro w'
                             go_simp
                             with_reducible rfl
                            rotate_left
                            ·simp only [Act.put, sI_, s0_, sS_, i64_w, i32_w]
                             rfl
                            refine pure_ (i := 7) (N := some 155) (v := ?_) (a' := ?_) #[y_, y_, y_, y_, y_, y_, n_, y_, n_, n_, n_, n_, n_, n_, n_, n_, n_, n_, n_, n_, n_, n_, n_, n_, n_, n_] rfl rfl (any_of HT_.out (by kernel_rfl)) (fun _ _ _ h => h) (Or.inl ⟨by rfl, ?_⟩) ?_ ?_
                            rotate_left
                            ·intro w'
                             go_simp
                             with_reducible rfl
                            rotate_left
                            ·simp only [Act.put, sI_, s0_, sS_, i64_w, i32_w]
                             rfl
                            refine pure_ (i := 8) (N := some 156) (v := ?_) (a' := ?_) #[y_, y_, y_, y_, y_, y_, n_, y_, y_, n_, n_, n_, n_, n_, n_, n_, n_, n_, n_, n_, n_, n_, n_, n_, n_, n_] rfl rfl (any_of HT_.out (by kernel_rfl)) (fun _ _ _ h => h) (Or.inl ⟨by rfl, ?_⟩) ?_ ?_
                            rotate_left
                            ·intro w'
                             go_simp
                             with_reducible rfl
                            rotate_left
                            ·simp only [Act.put, sI_, s0_, sS_, i64_w, i32_w]
                             rfl
                            refine pure_ (i := 9) (N := some 157) (v := ?_) (a' := ?_) #[y_, y_, y_, y_, y_, y_, n_, y_, y_, y_, n_, n_, n_, n_, n_, n_, n_, n_, n_, n_, n_, n_, n_, n_, n_, n_] rfl rfl (any_of HT_.out (by kernel_rfl)) (fun _ _ _ h => h) (Or.inl ⟨by rfl, ?_⟩) ?_ ?_
                            rotate_left
                            ·intro w'
                             go_simp
                             with_reducible rfl
                            rotate_left
                            ·simp only [Act.put, sI_, s0_, sS_, i64_w, i32_w]
                             rfl
                            refine take_ (i := 6) (N := some 154) (v := ?_) (a' := ?_) #[y_, y_, y_, y_, y_, y_, y_, y_, y_, y_, n_, n_, n_, n_, n_, n_, n_, n_, n_, n_, n_, n_, n_, n_, n_, n_] rfl rfl (take_ofW HT_.out HW_.out (by kernel_rfl)) (fun _ _ _ h => h) (Or.inl ⟨by rfl, ?_⟩) hHeld ?_ ?_
                            rotate_left
                            ·rintro w' ⟨s0, s1, s2⟩
                             go_simp
                             with_reducible rfl
                            rotate_left
                            ·simp only [Act.put, sI_, s0_, sS_, i64_w, i32_w]
                             rfl
                            refine take_ (i := 10) (N := some 158) (v := ?_) (a' := ?_) #[y_, y_, y_, y_, y_, y_, y_, y_, y_, y_, y_, n_, n_, n_, n_, n_, n_, n_, n_, n_, n_, n_, n_, n_, n_, n_] rfl rfl (take_ofW HT_.out HW_.out (by kernel_rfl)) (fun _ _ _ h => h) (Or.inl ⟨by rfl, ?_⟩) hHeld ?_ ?_
                            rotate_left
                            ·rintro w' ⟨s0, s1, s2⟩
                             go_simp
                             with_reducible rfl
                            rotate_left
                            ·simp only [Act.put, sI_, s0_, sS_, i64_w, i32_w]
                             rfl
                            refine pure_ (i := 11) (N := some 159) (v := ?_) (a' := ?_) #[y_, y_, y_, y_, y_, y_, y_, y_, y_, y_, y_, y_, n_, n_, n_, n_, n_, n_, n_, n_, n_, n_, n_, n_, n_, n_] rfl rfl (any_of HT_.out (by kernel_rfl)) (fun _ _ _ h => h) (Or.inl ⟨by rfl, ?_⟩) ?_ ?_
                            rotate_left
                            ·intro w'
                             go_simp
                             with_reducible rfl
                            rotate_left
                            ·simp only [Act.put, sI_, s0_, sS_, i64_w, i32_w]
                             rfl
                            refine pure_ (i := 12) (N := some 160) (v := ?_) (a' := ?_) #[y_, y_, y_, y_, y_, y_, y_, y_, y_, y_, y_, y_, y_, n_, n_, n_, n_, n_, n_, n_, n_, n_, n_, n_, n_, n_] rfl rfl (any_of HT_.out (by kernel_rfl)) (fun _ _ _ h => h) (Or.inl ⟨by rfl, ?_⟩) ?_ ?_
                            rotate_left
                            ·intro w'
                             go_simp
                             with_reducible rfl
                            rotate_left
                            ·simp only [Act.put, sI_, s0_, sS_, i64_w, i32_w]
                             rfl
                            refine pure_ (i := 13) (N := some 161) (v := ?_) (a' := ?_) #[y_, y_, y_, y_, y_, y_, y_, y_, y_, y_, y_, y_, y_, y_, n_, n_, n_, n_, n_, n_, n_, n_, n_, n_, n_, n_] rfl rfl (any_of HT_.out (by kernel_rfl)) (fun _ _ _ h => h) (Or.inl ⟨by rfl, ?_⟩) ?_ ?_
                            rotate_left
                            ·intro w'
                             go_simp
                             with_reducible rfl
                            rotate_left
                            ·simp only [Act.put, sI_, s0_, sS_, i64_w, i32_w]
                             rfl
                            refine pure_ (i := 14) (N := some 162) (v := undef) (a' := ?_) #[y_, y_, y_, y_, y_, y_, y_, y_, y_, y_, y_, y_, y_, y_, y_, n_, n_, n_, n_, n_, n_, n_, n_, n_, n_, n_] rfl rfl (any_of HT_.out (by kernel_rfl)) (fun _ _ _ h => h) (Or.inr ⟨by rfl, rfl⟩) ?_ ?_
                            rotate_left
                            ·simp only [Act.put, sI_, s0_, sS_, i64_w, i32_w]
                             rfl
                            refine pure_ (i := 15) (N := some 163) (v := undef) (a' := ?_) #[y_, y_, y_, y_, y_, y_, y_, y_, y_, y_, y_, y_, y_, y_, y_, y_, n_, n_, n_, n_, n_, n_, n_, n_, n_, n_] rfl rfl (any_of HT_.out (by kernel_rfl)) (fun _ _ _ h => h) (Or.inr ⟨by rfl, rfl⟩) ?_ ?_
                            rotate_left
                            ·simp only [Act.put, sI_, s0_, sS_, i64_w, i32_w]
                             rfl
                            refine pure_ (i := 16) (N := some 164) (v := undef) (a' := ?_) #[y_, y_, y_, y_, y_, y_, y_, y_, y_, y_, y_, y_, y_, y_, y_, y_, y_, n_, n_, n_, n_, n_, n_, n_, n_, n_] rfl rfl (any_of HT_.out (by kernel_rfl)) (fun _ _ _ h => h) (Or.inr ⟨by rfl, rfl⟩) ?_ ?_
                            rotate_left
                            ·simp only [Act.put, sI_, s0_, sS_, i64_w, i32_w]
                             rfl
                            refine pure_ (i := 17) (N := some 165) (v := undef) (a' := ?_) #[y_, y_, y_, y_, y_, y_, y_, y_, y_, y_, y_, y_, y_, y_, y_, y_, y_, y_, n_, n_, n_, n_, n_, n_, n_, n_] rfl rfl (any_of HT_.out (by kernel_rfl)) (fun _ _ _ h => h) (Or.inr ⟨by rfl, rfl⟩) ?_ ?_
                            rotate_left
                            ·simp only [Act.put, sI_, s0_, sS_, i64_w, i32_w]
                             rfl
                            refine pure_ (i := 18) (N := some 166) (v := undef) (a' := ?_) #[y_, y_, y_, y_, y_, y_, y_, y_, y_, y_, y_, y_, y_, y_, y_, y_, y_, y_, y_, n_, n_, n_, n_, n_, n_, n_] rfl rfl (any_of HT_.out (by kernel_rfl)) (fun _ _ _ h => h) (Or.inr ⟨by rfl, rfl⟩) ?_ ?_
                            rotate_left
                            ·simp only [Act.put, sI_, s0_, sS_, i64_w, i32_w]
                             rfl
                            refine pure_ (i := 19) (N := some 167) (v := undef) (a' := ?_) #[y_, y_, y_, y_, y_, y_, y_, y_, y_, y_, y_, y_, y_, y_, y_, y_, y_, y_, y_, y_, n_, n_, n_, n_, n_, n_] rfl rfl (any_of HT_.out (by kernel_rfl)) (fun _ _ _ h => h) (Or.inr ⟨by rfl, rfl⟩) ?_ ?_
                            rotate_left
                            ·simp only [Act.put, sI_, s0_, sS_, i64_w, i32_w]
                             rfl
                            refine pure_ (i := 20) (N := some 168) (v := undef) (a' := ?_) #[y_, y_, y_, y_, y_, y_, y_, y_, y_, y_, y_, y_, y_, y_, y_, y_, y_, y_, y_, y_, y_, n_, n_, n_, n_, n_] rfl rfl (any_of HT_.out (by kernel_rfl)) (fun _ _ _ h => h) (Or.inr ⟨by rfl, rfl⟩) ?_ ?_
                            rotate_left
                            ·simp only [Act.put, sI_, s0_, sS_, i64_w, i32_w]
                             rfl
                            refine pure_ (i := 21) (N := some 169) (v := undef) (a' := ?_) #[y_, y_, y_, y_, y_, y_, y_, y_, y_, y_, y_, y_, y_, y_, y_, y_, y_, y_, y_, y_, y_, y_, n_, n_, n_, n_] rfl rfl (any_of HT_.out (by kernel_rfl)) (fun _ _ _ h => h) (Or.inr ⟨by rfl, rfl⟩) ?_ ?_
                            rotate_left
                            ·simp only [Act.put, sI_, s0_, sS_, i64_w, i32_w]
                             rfl
                            refine pure_ (i := 22) (N := some 170) (v := undef) (a' := ?_) #[y_, y_, y_, y_, y_, y_, y_, y_, y_, y_, y_, y_, y_, y_, y_, y_, y_, y_, y_, y_, y_, y_, y_, n_, n_, n_] rfl rfl (any_of HT_.out (by kernel_rfl)) (fun _ _ _ h => h) (Or.inr ⟨by rfl, rfl⟩) ?_ ?_
                            rotate_left
                            ·simp only [Act.put, sI_, s0_, sS_, i64_w, i32_w]
                             rfl
                            refine pure_ (i := 23) (N := some 171) (v := undef) (a' := ?_) #[y_, y_, y_, y_, y_, y_, y_, y_, y_, y_, y_, y_, y_, y_, y_, y_, y_, y_, y_, y_, y_, y_, y_, y_, n_, n_] rfl rfl (any_of HT_.out (by kernel_rfl)) (fun _ _ _ h => h) (Or.inr ⟨by rfl, rfl⟩) ?_ ?_
                            rotate_left
                            ·simp only [Act.put, sI_, s0_, sS_, i64_w, i32_w]
                             rfl
                            refine pure_ (i := 24) (N := some 172) (v := ?_) (a' := ?_) #[y_, y_, y_, y_, y_, y_, y_, y_, y_, y_, y_, y_, y_, y_, y_, y_, y_, y_, y_, y_, y_, y_, y_, y_, y_, n_] rfl rfl (any_of HT_.out (by kernel_rfl)) (fun _ _ _ h => h) (Or.inl ⟨by rfl, ?_⟩) ?_ ?_
                            rotate_left
                            ·intro w'
                             go_simp
                             with_reducible rfl
                            rotate_left
                            ·simp only [Act.put, sI_, s0_, sS_, i64_w, i32_w]
                             rfl
                            refine pure_ (i := 25) (N := some 5) (v := ?_) (a' := ?_) #[y_, y_, y_, y_, y_, y_, y_, y_, y_, y_, y_, y_, y_, y_, y_, y_, y_, y_, y_, y_, y_, y_, y_, y_, y_, y_] rfl rfl (any_of HT_.out (by kernel_rfl)) (fun _ _ _ h => h) (Or.inl ⟨by rfl, ?_⟩) ?_ ?_
                            rotate_left
                            ·intro w'
                             go_simp
                             with_reducible rfl
                            rotate_left
                            ·simp only [Act.put, sI_, s0_, sS_, i64_w, i32_w]
                             rfl
                            refine done_ (done_of HT_.out (by kernel_rfl)) ?_
                            try go_wp2
                            go_roundg k6
                            case measure => have := HK1.out; have := HJ15.out; have := HK3.out; have := HK4.out; have := HJ86.out; have := HK6.out; omega
                            case rel => exact ⟨(false), (wrap64 (x145_6 + 1)), (by first | rfl | (simp; done) | (simp [*]; done)), (by first | rfl | (simp; done) | (simp [*]; done)), H', ⟨by have := HK1.out; have := HJ15.out; have := HK3.out; have := HK4.out; have := HJ86.out; have := HK6.out; omega⟩, ⟨by (try simp only [hl6_1]); (with_reducible repeat (first | apply Kd.R_alloc | apply Kd.R_drewN | apply Kd.R_drew)); exact HO_8.out⟩, ⟨by (try simp only [hl6_1]); (with_reducible repeat (first | apply Kd.R_alloc | apply Kd.R_drewN | apply Kd.R_drew)); exact HO_16.out⟩, ⟨by repeat (first | (with_reducible first | exact HB.out | apply below_alloc | apply pw_below_drewN | apply below_drew1) | exact HB.out)⟩⟩
                          ·rw [if_neg c98] at H
                           exact absurd H (by simp)
                         ·rw [if_neg c97] at H
                          exact absurd H (by simp)
                        ·rw [if_neg c96] at H
                         exact absurd H (by simp)
                       ·replace c95 := Bool.eq_false_iff.mpr c95
                        subst c95
                        have H1 : (cohousinglaw28_FlowSubmeters.l4 k6 false x8_4 t492 (t492.length : Int) (wrap64 (x145_6 + 1))) = some r := by rw [if_neg (show ¬ (false = true) by decide)] at H; exact H
                        clear H
                        have H := H1
                        clear H1
                        have H' := Aside0.mk H
                        clear H
                        try go_wp2
                        have n0_ := Aside0.mk (Kd.R_drew HO_8.out)
                        have n1_ := Aside0.mk (Kd.R_drew HO_16.out)
                        have n2_ := Aside0.mk (below_drew1 HB.out)
                        clear HO_8
                        clear HO_16
                        clear HB
                        have HO_8 := n0_
                        have HO_16 := n1_
                        have HB := n2_
                        clear n0_ n1_ n2_
                        refine start_ (n := 26) (S := fun w' => True) (ds := []) #[n_, n_, n_, n_, n_, n_, n_, n_, n_, n_, n_, n_, n_, n_, n_, n_, n_, n_, n_, n_, n_, n_, n_, n_, n_, n_] (by kernel_rfl) rfl rfl trivial (fun hHeld => ?_); refine with_tabW cohousinglaw28_FlowSubmeters.tab42 cohousinglaw28_FlowSubmeters.bits42 (fun HT_ HW_ => ?_)
                        generalize wr.drew = w104 at HO_8 HO_16 HB hHeld ⊢
                        refine pure_ (i := 0) (N := some 148) (v := ?_) (a' := ?_) #[y_, n_, n_, n_, n_, n_, n_, n_, n_, n_, n_, n_, n_, n_, n_, n_, n_, n_, n_, n_, n_, n_, n_, n_, n_, n_] rfl rfl (any_of HT_.out (by kernel_rfl)) (fun _ _ _ h => h) (Or.inl ⟨by rfl, ?_⟩) ?_ ?_
                        rotate_left
                        ·intro w'
                         go_simp
                         with_reducible rfl
                        rotate_left
                        ·simp only [Act.put, sI_, s0_, sS_, i64_w, i32_w]
                         rfl
                        refine pure_ (i := 1) (N := some 149) (v := ?_) (a' := ?_) #[y_, y_, n_, n_, n_, n_, n_, n_, n_, n_, n_, n_, n_, n_, n_, n_, n_, n_, n_, n_, n_, n_, n_, n_, n_, n_] rfl rfl (any_of HT_.out (by kernel_rfl)) (fun _ _ _ h => h) (Or.inl ⟨by rfl, ?_⟩) ?_ ?_
                        rotate_left
                        ·intro w'
                         go_simp
                         with_reducible rfl
                        rotate_left
                        ·simp only [Act.put, sI_, s0_, sS_, i64_w, i32_w]
                         rfl
                        refine pure_ (i := 2) (N := some 150) (v := undef) (a' := ?_) #[y_, y_, y_, n_, n_, n_, n_, n_, n_, n_, n_, n_, n_, n_, n_, n_, n_, n_, n_, n_, n_, n_, n_, n_, n_, n_] rfl rfl (any_of HT_.out (by kernel_rfl)) (fun _ _ _ h => h) (Or.inr ⟨by rfl, rfl⟩) ?_ ?_
                        rotate_left
                        ·simp only [Act.put, sI_, s0_, sS_, i64_w, i32_w]
                         rfl
                        refine pure_ (i := 3) (N := some 151) (v := undef) (a' := ?_) #[y_, y_, y_, y_, n_, n_, n_, n_, n_, n_, n_, n_, n_, n_, n_, n_, n_, n_, n_, n_, n_, n_, n_, n_, n_, n_] rfl rfl (any_of HT_.out (by kernel_rfl)) (fun _ _ _ h => h) (Or.inr ⟨by rfl, rfl⟩) ?_ ?_
                        rotate_left
                        ·simp only [Act.put, sI_, s0_, sS_, i64_w, i32_w]
                         rfl
                        refine pure_ (i := 4) (N := some 152) (v := undef) (a' := ?_) #[y_, y_, y_, y_, y_, n_, n_, n_, n_, n_, n_, n_, n_, n_, n_, n_, n_, n_, n_, n_, n_, n_, n_, n_, n_, n_] rfl rfl (any_of HT_.out (by kernel_rfl)) (fun _ _ _ h => h) (Or.inr ⟨by rfl, rfl⟩) ?_ ?_
                        rotate_left
                        ·simp only [Act.put, sI_, s0_, sS_, i64_w, i32_w]
                         rfl
                        refine pure_ (i := 5) (N := some 153) (v := undef) (a' := ?_) #[y_, y_, y_, y_, y_, y_, n_, n_, n_, n_, n_, n_, n_, n_, n_, n_, n_, n_, n_, n_, n_, n_, n_, n_, n_, n_] rfl rfl (any_of HT_.out (by kernel_rfl)) (fun _ _ _ h => h) (Or.inr ⟨by rfl, rfl⟩) ?_ ?_
                        rotate_left
                        ·simp only [Act.put, sI_, s0_, sS_, i64_w, i32_w]
                         rfl
                        refine pure_ (i := 6) (N := some 154) (v := undef) (a' := ?_) #[y_, y_, y_, y_, y_, y_, y_, n_, n_, n_, n_, n_, n_, n_, n_, n_, n_, n_, n_, n_, n_, n_, n_, n_, n_, n_] rfl rfl (any_of HT_.out (by kernel_rfl)) (fun _ _ _ h => h) (Or.inr ⟨by rfl, rfl⟩) ?_ ?_
                        rotate_left
                        ·simp only [Act.put, sI_, s0_, sS_, i64_w, i32_w]
                         rfl
                        refine pure_ (i := 7) (N := some 155) (v := undef) (a' := ?_) #[y_, y_, y_, y_, y_, y_, y_, y_, n_, n_, n_, n_, n_, n_, n_, n_, n_, n_, n_, n_, n_, n_, n_, n_, n_, n_] rfl rfl (any_of HT_.out (by kernel_rfl)) (fun _ _ _ h => h) (Or.inr ⟨by rfl, rfl⟩) ?_ ?_
                        rotate_left
                        ·simp only [Act.put, sI_, s0_, sS_, i64_w, i32_w]
                         rfl
                        refine pure_ (i := 8) (N := some 156) (v := undef) (a' := ?_) #[y_, y_, y_, y_, y_, y_, y_, y_, y_, n_, n_, n_, n_, n_, n_, n_, n_, n_, n_, n_, n_, n_, n_, n_, n_, n_] rfl rfl (any_of HT_.out (by kernel_rfl)) (fun _ _ _ h => h) (Or.inr ⟨by rfl, rfl⟩) ?_ ?_
                        rotate_left
                        ·simp only [Act.put, sI_, s0_, sS_, i64_w, i32_w]
                         rfl
                        refine pure_ (i := 9) (N := some 157) (v := undef) (a' := ?_) #[y_, y_, y_, y_, y_, y_, y_, y_, y_, y_, n_, n_, n_, n_, n_, n_, n_, n_, n_, n_, n_, n_, n_, n_, n_, n_] rfl rfl (any_of HT_.out (by kernel_rfl)) (fun _ _ _ h => h) (Or.inr ⟨by rfl, rfl⟩) ?_ ?_
                        rotate_left
                        ·simp only [Act.put, sI_, s0_, sS_, i64_w, i32_w]
                         rfl
                        refine pure_ (i := 10) (N := some 158) (v := undef) (a' := ?_) #[y_, y_, y_, y_, y_, y_, y_, y_, y_, y_, y_, n_, n_, n_, n_, n_, n_, n_, n_, n_, n_, n_, n_, n_, n_, n_] rfl rfl (any_of HT_.out (by kernel_rfl)) (fun _ _ _ h => h) (Or.inr ⟨by rfl, rfl⟩) ?_ ?_
                        rotate_left
                        ·simp only [Act.put, sI_, s0_, sS_, i64_w, i32_w]
                         rfl
                        refine pure_ (i := 11) (N := some 159) (v := undef) (a' := ?_) #[y_, y_, y_, y_, y_, y_, y_, y_, y_, y_, y_, y_, n_, n_, n_, n_, n_, n_, n_, n_, n_, n_, n_, n_, n_, n_] rfl rfl (any_of HT_.out (by kernel_rfl)) (fun _ _ _ h => h) (Or.inr ⟨by rfl, rfl⟩) ?_ ?_
                        rotate_left
                        ·simp only [Act.put, sI_, s0_, sS_, i64_w, i32_w]
                         rfl
                        refine pure_ (i := 12) (N := some 160) (v := ?_) (a' := ?_) #[y_, y_, y_, y_, y_, y_, y_, y_, y_, y_, y_, y_, y_, n_, n_, n_, n_, n_, n_, n_, n_, n_, n_, n_, n_, n_] rfl rfl (any_of HT_.out (by kernel_rfl)) (fun _ _ _ h => h) (Or.inl ⟨by rfl, ?_⟩) ?_ ?_
                        rotate_left
                        ·intro w'
                         go_simp
                         with_reducible rfl
                        rotate_left
                        ·simp only [Act.put, sI_, s0_, sS_, i64_w, i32_w]
                         rfl
                        refine pure_ (i := 13) (N := some 161) (v := ?_) (a' := ?_) #[y_, y_, y_, y_, y_, y_, y_, y_, y_, y_, y_, y_, y_, y_, n_, n_, n_, n_, n_, n_, n_, n_, n_, n_, n_, n_] rfl rfl (any_of HT_.out (by kernel_rfl)) (fun _ _ _ h => h) (Or.inl ⟨by rfl, ?_⟩) ?_ ?_
                        rotate_left
                        ·intro w'
                         go_simp
                         with_reducible rfl
                        rotate_left
                        ·simp only [Act.put, sI_, s0_, sS_, i64_w, i32_w]
                         rfl
                        refine pure_ (i := 14) (N := some 162) (v := undef) (a' := ?_) #[y_, y_, y_, y_, y_, y_, y_, y_, y_, y_, y_, y_, y_, y_, y_, n_, n_, n_, n_, n_, n_, n_, n_, n_, n_, n_] rfl rfl (any_of HT_.out (by kernel_rfl)) (fun _ _ _ h => h) (Or.inr ⟨by rfl, rfl⟩) ?_ ?_
                        rotate_left
                        ·simp only [Act.put, sI_, s0_, sS_, i64_w, i32_w]
                         rfl
                        refine pure_ (i := 15) (N := some 163) (v := undef) (a' := ?_) #[y_, y_, y_, y_, y_, y_, y_, y_, y_, y_, y_, y_, y_, y_, y_, y_, n_, n_, n_, n_, n_, n_, n_, n_, n_, n_] rfl rfl (any_of HT_.out (by kernel_rfl)) (fun _ _ _ h => h) (Or.inr ⟨by rfl, rfl⟩) ?_ ?_
                        rotate_left
                        ·simp only [Act.put, sI_, s0_, sS_, i64_w, i32_w]
                         rfl
                        refine pure_ (i := 16) (N := some 164) (v := undef) (a' := ?_) #[y_, y_, y_, y_, y_, y_, y_, y_, y_, y_, y_, y_, y_, y_, y_, y_, y_, n_, n_, n_, n_, n_, n_, n_, n_, n_] rfl rfl (any_of HT_.out (by kernel_rfl)) (fun _ _ _ h => h) (Or.inr ⟨by rfl, rfl⟩) ?_ ?_
                        rotate_left
                        ·simp only [Act.put, sI_, s0_, sS_, i64_w, i32_w]
                         rfl
                        refine pure_ (i := 17) (N := some 165) (v := undef) (a' := ?_) #[y_, y_, y_, y_, y_, y_, y_, y_, y_, y_, y_, y_, y_, y_, y_, y_, y_, y_, n_, n_, n_, n_, n_, n_, n_, n_] rfl rfl (any_of HT_.out (by kernel_rfl)) (fun _ _ _ h => h) (Or.inr ⟨by rfl, rfl⟩) ?_ ?_
                        rotate_left
                        ·simp only [Act.put, sI_, s0_, sS_, i64_w, i32_w]
                         rfl
                        refine pure_ (i := 18) (N := some 166) (v := undef) (a' := ?_) #[y_, y_, y_, y_, y_, y_, y_, y_, y_, y_, y_, y_, y_, y_, y_, y_, y_, y_, y_, n_, n_, n_, n_, n_, n_, n_] rfl rfl (any_of HT_.out (by kernel_rfl)) (fun _ _ _ h => h) (Or.inr ⟨by rfl, rfl⟩) ?_ ?_
                        rotate_left
                        ·simp only [Act.put, sI_, s0_, sS_, i64_w, i32_w]
                         rfl
                        refine pure_ (i := 19) (N := some 167) (v := undef) (a' := ?_) #[y_, y_, y_, y_, y_, y_, y_, y_, y_, y_, y_, y_, y_, y_, y_, y_, y_, y_, y_, y_, n_, n_, n_, n_, n_, n_] rfl rfl (any_of HT_.out (by kernel_rfl)) (fun _ _ _ h => h) (Or.inr ⟨by rfl, rfl⟩) ?_ ?_
                        rotate_left
                        ·simp only [Act.put, sI_, s0_, sS_, i64_w, i32_w]
                         rfl
                        refine pure_ (i := 20) (N := some 168) (v := undef) (a' := ?_) #[y_, y_, y_, y_, y_, y_, y_, y_, y_, y_, y_, y_, y_, y_, y_, y_, y_, y_, y_, y_, y_, n_, n_, n_, n_, n_] rfl rfl (any_of HT_.out (by kernel_rfl)) (fun _ _ _ h => h) (Or.inr ⟨by rfl, rfl⟩) ?_ ?_
                        rotate_left
                        ·simp only [Act.put, sI_, s0_, sS_, i64_w, i32_w]
                         rfl
                        refine pure_ (i := 21) (N := some 169) (v := undef) (a' := ?_) #[y_, y_, y_, y_, y_, y_, y_, y_, y_, y_, y_, y_, y_, y_, y_, y_, y_, y_, y_, y_, y_, y_, n_, n_, n_, n_] rfl rfl (any_of HT_.out (by kernel_rfl)) (fun _ _ _ h => h) (Or.inr ⟨by rfl, rfl⟩) ?_ ?_
                        rotate_left
                        ·simp only [Act.put, sI_, s0_, sS_, i64_w, i32_w]
                         rfl
                        refine pure_ (i := 22) (N := some 170) (v := undef) (a' := ?_) #[y_, y_, y_, y_, y_, y_, y_, y_, y_, y_, y_, y_, y_, y_, y_, y_, y_, y_, y_, y_, y_, y_, y_, n_, n_, n_] rfl rfl (any_of HT_.out (by kernel_rfl)) (fun _ _ _ h => h) (Or.inr ⟨by rfl, rfl⟩) ?_ ?_
                        rotate_left
                        ·simp only [Act.put, sI_, s0_, sS_, i64_w, i32_w]
                         rfl
                        refine pure_ (i := 23) (N := some 171) (v := undef) (a' := ?_) #[y_, y_, y_, y_, y_, y_, y_, y_, y_, y_, y_, y_, y_, y_, y_, y_, y_, y_, y_, y_, y_, y_, y_, y_, n_, n_] rfl rfl (any_of HT_.out (by kernel_rfl)) (fun _ _ _ h => h) (Or.inr ⟨by rfl, rfl⟩) ?_ ?_
                        rotate_left
                        ·simp only [Act.put, sI_, s0_, sS_, i64_w, i32_w]
                         rfl
                        refine pure_ (i := 24) (N := some 172) (v := ?_) (a' := ?_) #[y_, y_, y_, y_, y_, y_, y_, y_, y_, y_, y_, y_, y_, y_, y_, y_, y_, y_, y_, y_, y_, y_, y_, y_, y_, n_] rfl rfl (any_of HT_.out (by kernel_rfl)) (fun _ _ _ h => h) (Or.inl ⟨by rfl, ?_⟩) ?_ ?_
                        rotate_left
                        ·intro w'
                         go_simp
                         with_reducible rfl
                        rotate_left
                        ·simp only [Act.put, sI_, s0_, sS_, i64_w, i32_w]
                         rfl
                        refine pure_ (i := 25) (N := some 5) (v := ?_) (a' := ?_) #[y_, y_, y_, y_, y_, y_, y_, y_, y_, y_, y_, y_, y_, y_, y_, y_, y_, y_, y_, y_, y_, y_, y_, y_, y_, y_] rfl rfl (any_of HT_.out (by kernel_rfl)) (fun _ _ _ h => h) (Or.inl ⟨by rfl, ?_⟩) ?_ ?_
                        rotate_left
                        ·intro w'
                         go_simp
                         with_reducible rfl
                        rotate_left
                        ·simp only [Act.put, sI_, s0_, sS_, i64_w, i32_w]
                         rfl
                        refine done_ (done_of HT_.out (by kernel_rfl)) ?_
                        try go_wp2
                        go_roundg k6
                        case measure => have := HK1.out; have := HJ15.out; have := HK3.out; have := HK4.out; have := HJ86.out; have := HK6.out; omega
                        case rel => exact ⟨(false), (wrap64 (x145_6 + 1)), (by first | rfl | (simp; done) | (simp [*]; done)), (by first | rfl | (simp; done) | (simp [*]; done)), H', ⟨by have := HK1.out; have := HJ15.out; have := HK3.out; have := HK4.out; have := HJ86.out; have := HK6.out; omega⟩, ⟨by (try simp only [hl6_1]); (with_reducible repeat (first | apply Kd.R_alloc | apply Kd.R_drewN | apply Kd.R_drew)); exact HO_8.out⟩, ⟨by (try simp only [hl6_1]); (with_reducible repeat (first | apply Kd.R_alloc | apply Kd.R_drewN | apply Kd.R_drew)); exact HO_16.out⟩, ⟨by repeat (first | (with_reducible first | exact HB.out | apply below_alloc | apply pw_below_drewN | apply below_drew1) | exact HB.out)⟩⟩
                      ·rw [if_neg c94] at H
                       have c94b0 : decide (x145_6 < (t492.length : Int)) = false := decide_eq_false c94
                       clear c94
                       obtain rfl := Option.some.inj H
                       go_wp2
                       go_ret
                       exact ⟨by first | rfl | (simp [errW_none, errW_some] <;> rfl) | (simp [*, errW_none, errW_some] <;> rfl), by repeat (first | (with_reducible first | exact HB.out | apply below_alloc | apply pw_below_drewN | apply below_drew1) | exact HB.out)⟩
         ·rw [if_neg c23] at H
          exact absurd H (by simp)
        ·rw [if_neg c22] at H
         exact absurd H (by simp)
 ·rw [if_neg c4] at H
  exact absurd H (by simp)
end Go.Proofs.Ytmojlpafpeeelaa.P
end
section
namespace Go.Proofs.Ytmojlpafpeeelaa.P
open Go.RowKit Go.Proofs.YtmojlpafpeeelaaW.PrintWords Go.Proofs.YtmojlpafpeeelaaW.PrintLast Go.Proofs.YtmojlpafpeeelaaW.PrintMore
attribute [local go_sem] max2_int min2_int max_two min_two max_three min_three max_four min_four
set_option linter.unusedVariables false
set_option linter.unusedSimpArgs false
mutual
def cohousinglaw28_FlowMatchesReference.j0 : Nat → List (S44) → List (S39) → List Int → Int → Int → Bool → Bool → Option (Bool)
 | 0, _, _, _, _, _, _, _ => none
 | k + 1, x0, x1, x2, x3, x4, x11, x28 => if x28 = true then (some x11) else ((flow_Bounds.f x0 x1).bind fun bt312 => ((cohousingref28_Bounds.f k x0 x1).bind fun bt316 => (if x11 = true then ((flow_Valid.f x0).bind fun t320 => ((cohousingref28_Valid.f k x0).bind fun t321 => (if (t320 == t321) = true then ((cohousingref28_Same.f k bt312.1 bt316.1).bind fun t322 => (if t322 = true then (cohousinglaw28_FlowMatchesReference.j1 k x0 x1 x2 x3 x4 (bt312.2 == bt316.2)) else (cohousinglaw28_FlowMatchesReference.j1 k x0 x1 x2 x3 x4 false))) else (cohousinglaw28_FlowMatchesReference.j1 k x0 x1 x2 x3 x4 false)))) else (cohousinglaw28_FlowMatchesReference.j1 k x0 x1 x2 x3 x4 false))))
def cohousinglaw28_FlowMatchesReference.j1 : Nat → List (S44) → List (S39) → List Int → Int → Int → Bool → Option (Bool)
 | 0, _, _, _, _, _, _ => none
 | k + 1, x0, x1, x2, x3, x4, x11 => (flow_Consistent.f x0 x1 x2).bind fun bt323 => ((cohousingref28_Consistent.f k x0 x1 x2).bind fun bt325 => (if x11 = true then (if (bt323.1 == bt325.1) = true then ((flow_State.f x0 x1 x3 x4).bind fun bt327 => ((cohousingref28_State.f k x0 x1 x3 x4).bind fun bt331 => (if bt323.2 = bt325.2 then ((cohousingref02_Same.f k bt327.1 bt331.1).bind fun t335 => (if t335 = true then (some (bt327.2 == bt331.2)) else (some false))) else (some false)))) else ((flow_State.f x0 x1 x3 x4).bind fun bt336 => ((cohousingref28_State.f k x0 x1 x3 x4).bind fun bt340 => (some false)))) else ((flow_State.f x0 x1 x3 x4).bind fun bt344 => ((cohousingref28_State.f k x0 x1 x3 x4).bind fun bt348 => (some false)))))
end
end Go.Proofs.Ytmojlpafpeeelaa.P
end
section
namespace Go.Proofs.Ytmojlpafpeeelaa.P
open Go.RowKit Go.Proofs.YtmojlpafpeeelaaW.PrintWords Go.Proofs.YtmojlpafpeeelaaW.PrintLast Go.Proofs.YtmojlpafpeeelaaW.PrintMore Go.Proofs.YtmojlpafpeeelaaH Go.Proofs.FlowTree
open Classical
theorem Ev.of_mono {α : Type} {f : Nat → Option α} {r : α} (k0 : Nat) (h0 : f k0 = some r) (h : ∀ k, LeO (f k) (f (k + 1))) : Ev f r := by
 refine ⟨k0, fun k hk => ?_⟩
 obtain ⟨d, rfl⟩ : ∃ d, k = k0 + d := ⟨k - k0, by omega⟩
 induction d with
 | zero => exact h0
 | succ d ih => exact h _ _ (ih (by omega))
theorem head_ev : Ev (fun k => cohousinglaw28_head.f k) true := Ev.of_mono 40 (by kernel_rfl) (fun k => cohousinglaw28_head.mono k)
theorem B_f (l : List PI) (r : List RG) (x : List Int) (hl : l.length ≤ 5864062014805) (hr : r.length ≤ 140737488355328) (hx : x.length ≤ 17592186044416) : flow_Bounds.f l r = some (boundsR l r) := by unfold flow_Bounds.f; rw [if_pos ⟨hl, hr⟩]
theorem V_f (l : List PI) (r : List RG) (x : List Int) (hl : l.length ≤ 5864062014805) (hr : r.length ≤ 140737488355328) (hx : x.length ≤ 17592186044416) : flow_Valid.f l = some (decide (okL l ∧ l.length ≤ 200)) := by unfold flow_Valid.f; rw [if_pos hl, valid_iff]
section
variable (l : List PI) (r : List RG) (x : List Int) (hl : l.length ≤ 5864062014805) (hr : r.length ≤ 140737488355328) (hx : x.length ≤ 17592186044416)
include hl hr hx
end
end Go.Proofs.Ytmojlpafpeeelaa.P
end
section
namespace Go.Proofs.Ytmojlpafpeeelaa.P
open Go.RowKit Go.Proofs.YtmojlpafpeeelaaW.PrintWords Go.Proofs.YtmojlpafpeeelaaW.PrintLast Go.Proofs.YtmojlpafpeeelaaW.PrintMore
attribute [local go_sem] max2_int min2_int max_two min_two max_three min_three max_four min_four
set_option linter.unusedVariables false
set_option linter.unusedSimpArgs false
mutual
def cohousinglaw28_FlowWithin.j0 : Nat → List (S44) → List (S39) → List Int → Bool → Bool → Option (Bool)
 | 0, _, _, _, _, _ => none
 | k + 1, x0, x1, x2, x7, x21 => if x21 = true then (some x7) else ((flow_Bounds.f x0 x1).bind fun bt386 => (if bt386.2 = 0 then (if (bt386.1.length : Int) = (x2.length : Int) then (cohousinglaw28_FlowWithin.j1 k x1 x2 x7 bt386.1 ((x1.length : Int) != (x2.length : Int))) else (cohousinglaw28_FlowWithin.j1 k x1 x2 x7 bt386.1 true)) else (cohousinglaw28_FlowWithin.j1 k x1 x2 x7 bt386.1 true)))
def cohousinglaw28_FlowWithin.j1 : Nat → List (S39) → List Int → Bool → List (S39) → Bool → Option (Bool)
 | 0, _, _, _, _, _ => none
 | k + 1, x1, x2, x7, x8, x44 => if x44 = true then (some false) else (cohousinglaw28_FlowWithin.l0 k x1 x2 x7 x8 (x2.length : Int) 0)
def cohousinglaw28_FlowWithin.l0 : Nat → List (S39) → List Int → Bool → List (S39) → Int → Int → Option (Bool)
 | 0, _, _, _, _, _, _ => none
 | k + 1, x1, x2, x7, x8, x46, x47 => if x47 < x46 then (if x7 = true then (if 0 ≤ x47 then (if x47 < (x8.length : Int) then (if x47 < (x2.length : Int) then (if ((rd_T39 x8 x47).f0) ≤ (rd x2 x47) then (if (rd x2 x47) ≤ ((rd_T39 x8 x47).f1) then (if x47 < (x1.length : Int) then (if ((rd_T39 x1 x47).f0) ≤ ((rd_T39 x8 x47).f0) then (cohousinglaw28_FlowWithin.l0 k x1 x2 (decide (((rd_T39 x8 x47).f1) ≤ ((rd_T39 x1 x47).f1))) x8 x46 (wrap64 (x47 + 1))) else (cohousinglaw28_FlowWithin.l0 k x1 x2 false x8 x46 (wrap64 (x47 + 1)))) else (none)) else (cohousinglaw28_FlowWithin.l0 k x1 x2 false x8 x46 (wrap64 (x47 + 1)))) else (cohousinglaw28_FlowWithin.l0 k x1 x2 false x8 x46 (wrap64 (x47 + 1)))) else (none)) else (none)) else (none)) else (cohousinglaw28_FlowWithin.l0 k x1 x2 false x8 x46 (wrap64 (x47 + 1)))) else (some x7)
end
end Go.Proofs.Ytmojlpafpeeelaa.P
end
section
namespace Go.Proofs.Ytmojlpafpeeelaa.P
open Go.RowKit Go.Proofs.YtmojlpafpeeelaaW.PrintWords Go.Proofs.YtmojlpafpeeelaaW.PrintLast Go.Proofs.YtmojlpafpeeelaaW.PrintMore
attribute [local go_sem] max2_int min2_int max_two min_two max_three min_three max_four min_four
set_option linter.unusedVariables false
set_option linter.unusedSimpArgs false
mutual
def cohousinglaw28_FlowFirst.j0 : Nat → List (S44) → List (S39) → List Int → Int → Bool → Bool → Option (Bool)
 | 0, _, _, _, _, _, _ => none
 | k + 1, x0, x1, x2, x3, x9, x33 => if x33 = true then (some x9) else (if 0 ≤ x3 then (if x3 < (x2.length : Int) then ((flow_State.f x0 x1 x3 (rd x2 x3)).bind fun bt449 => (if bt449.2 = 0 then (cohousinglaw28_FlowFirst.j1 k x2 x9 bt449.1 ((bt449.1.length : Int) != (x2.length : Int))) else (cohousinglaw28_FlowFirst.j1 k x2 x9 bt449.1 true))) else (none)) else (none))
def cohousinglaw28_FlowFirst.j1 : Nat → List Int → Bool → List Int → Bool → Option (Bool)
 | 0, _, _, _, _ => none
 | k + 1, x2, x9, x10, x54 => if x54 = true then (some false) else (cohousinglaw28_FlowFirst.l0 k x2 x9 x10 (x2.length : Int) 0)
def cohousinglaw28_FlowFirst.l0 : Nat → List Int → Bool → List Int → Int → Int → Option (Bool)
 | 0, _, _, _, _, _ => none
 | k + 1, x2, x9, x10, x56, x57 => if x57 < x56 then (if 0 ≤ x57 then (if x57 < (x2.length : Int) then (if x57 < (x10.length : Int) then (if (rd x2 x57) = (rd x10 x57) then (cohousinglaw28_FlowFirst.l0 k x2 x9 x10 x56 (wrap64 (x57 + 1))) else (if x9 = true then (some (decide ((rd x10 x57) < (rd x2 x57)))) else (some false))) else (none)) else (none)) else (none)) else (some x9)
end
end Go.Proofs.Ytmojlpafpeeelaa.P
end
section
namespace Go.Proofs.Ytmojlpafpeeelaa.P
open Go.RowKit Go.Proofs.YtmojlpafpeeelaaW.PrintWords Go.Proofs.YtmojlpafpeeelaaW.PrintLast Go.Proofs.YtmojlpafpeeelaaW.PrintMore
attribute [local go_sem] max2_int min2_int max_two min_two max_three min_three max_four min_four
set_option linter.unusedVariables false
set_option linter.unusedSimpArgs false
mutual
def cohousinglaw28_FlowExact.j0 : Nat → List (S44) → List (S39) → Int → Int → Bool → Bool → Option (Bool)
 | 0, _, _, _, _, _, _ => none
 | k + 1, x0, x1, x2, x3, x9, x32 => if x32 = true then (some x9) else ((flow_Bounds.f x0 x1).bind fun bt358 => (if bt358.2 = 0 then (if (bt358.1.length : Int) = (x0.length : Int) then (if 0 ≤ x2 then (if x2 < (bt358.1.length : Int) then (cohousinglaw28_FlowExact.j1 k x0 x1 x2 x3 x9 bt358.1 (decide (((rd_T39 bt358.1 x2).f0) > ((rd_T39 bt358.1 x2).f1)))) else (none)) else (none)) else (cohousinglaw28_FlowExact.j1 k x0 x1 x2 x3 x9 bt358.1 true)) else ((flow_State.f x0 x1 x2 x3).bind fun bt362 => (if x9 = true then (if bt358.2 = 30 then (if bt362.2 = 30 then (some ((bt362.1.length : Int) == 0)) else (some false)) else (some false)) else (some false)))))
def cohousinglaw28_FlowExact.j1 : Nat → List (S44) → List (S39) → Int → Int → Bool → List (S39) → Bool → Option (Bool)
 | 0, _, _, _, _, _, _, _ => none
 | k + 1, x0, x1, x2, x3, x9, x10, x81 => if x81 = true then (some false) else (if 0 ≤ x2 then (if x2 < (x10.length : Int) then ((some (([x3, (rd_T39 x10 x2).f0, (rd_T39 x10 x2).f1, wrap64 (((rd_T39 x10 x2).f0) - 1), wrap64 (((rd_T39 x10 x2).f1) + 1)] : List Int) : List Int)).bind fun y372 => (cohousinglaw28_FlowExact.l0 k x0 x1 x2 x9 x10 y372 (y372.length : Int) 0)) else (none)) else (none))
def cohousinglaw28_FlowExact.l0 : Nat → List (S44) → List (S39) → Int → Bool → List (S39) → List Int → Int → Int → Option (Bool)
 | 0, _, _, _, _, _, _, _, _ => none
 | k + 1, x0, x1, x2, x9, x10, x105, x106, x107 => if x107 < x106 then (if 0 ≤ x107 then (if x107 < (x105.length : Int) then ((flow_State.f x0 x1 x2 (rd x105 x107)).bind fun bt376 => (if 0 ≤ x2 then (if x2 < (x10.length : Int) then (if (rd x105 x107) < ((rd_T39 x10 x2).f0) then (cohousinglaw28_FlowExact.j3 k x0 x1 x2 x9 x10 (rd x105 x107) bt376.1 bt376.2 x105 x106 x107 true) else (cohousinglaw28_FlowExact.j3 k x0 x1 x2 x9 x10 (rd x105 x107) bt376.1 bt376.2 x105 x106 x107 (decide ((rd x105 x107) > ((rd_T39 x10 x2).f1))))) else (none)) else (none))) else (none)) else (none)) else (some x9)
def cohousinglaw28_FlowExact.j3 : Nat → List (S44) → List (S39) → Int → Bool → List (S39) → Int → List Int → Int → List Int → Int → Int → Bool → Option (Bool)
 | 0, _, _, _, _, _, _, _, _, _, _, _, _ => none
 | k + 1, x0, x1, x2, x9, x10, x15, x16, x17, x105, x106, x107, x134 => if x134 = true then (if x9 = true then (if x17 = 30 then (cohousinglaw28_FlowExact.l0 k x0 x1 x2 ((x16.length : Int) == 0) x10 x105 x106 (wrap64 (x107 + 1))) else (cohousinglaw28_FlowExact.l0 k x0 x1 x2 false x10 x105 x106 (wrap64 (x107 + 1)))) else (cohousinglaw28_FlowExact.l0 k x0 x1 x2 false x10 x105 x106 (wrap64 (x107 + 1)))) else (if x17 = 0 then (if (x16.length : Int) = (x0.length : Int) then (if 0 ≤ x2 then (if x2 < (x16.length : Int) then (if (rd x16 x2) = x15 then ((cohousinglaw28_consistent.f x0 x1 x16).bind fun t383 => (if t383 = true then (cohousinglaw28_FlowExact.l0 k x0 x1 x2 x9 x10 x105 x106 (wrap64 (x107 + 1))) else (some false))) else (some false)) else (none)) else (none)) else (some false)) else (some false))
end
end Go.Proofs.Ytmojlpafpeeelaa.P
end
section
namespace Go.Proofs.Ytmojlpafpeeelaa.P
open Go.RowKit Go.Proofs.YtmojlpafpeeelaaW.PrintWords Go.Proofs.YtmojlpafpeeelaaW.PrintLast Go.Proofs.YtmojlpafpeeelaaW.PrintMore
attribute [local go_sem] max2_int min2_int max_two min_two max_three min_three max_four min_four
set_option linter.unusedVariables false
set_option linter.unusedSimpArgs false
mutual
def cohousinglaw28_FlowKnowledge.l0 : Nat → List (S44) → List (S39) → List (S39) → Bool → List (S39) → Int → Int → Option (Bool)
 | 0, _, _, _, _, _, _, _ => none
 | k + 1, x0, x1, x2, x7, x8, x28, x29 => if x29 < x28 then (if x29 < (x2.length : Int) then (if 0 ≤ x29 then (if x29 < (x8.length : Int) then (if (mx ((rd_T39 x8 x29).f0) ((rd_T39 x2 x29).f0)) ≤ (mn ((rd_T39 x8 x29).f1) ((rd_T39 x2 x29).f1)) then (cohousinglaw28_FlowKnowledge.l0 k x0 x1 x2 x7 (x8.set (x29 : Int).toNat (⟨mx ((rd_T39 x8 x29).f0) ((rd_T39 x2 x29).f0), mn ((rd_T39 x8 x29).f1) ((rd_T39 x2 x29).f1)⟩ : S39)) x28 (wrap64 (x29 + 1))) else (cohousinglaw28_FlowKnowledge.l0 k x0 x1 x2 x7 x8 x28 (wrap64 (x29 + 1)))) else (none)) else (none)) else (cohousinglaw28_FlowKnowledge.l0 k x0 x1 x2 x7 x8 x28 (wrap64 (x29 + 1)))) else ((flow_Bounds.f x0 x1).bind fun bt514 => ((flow_Bounds.f x0 x8).bind fun bt518 => (if bt514.2 = 0 then ((flow_Bounds.f x0 bt514.1).bind fun bt522 => (if bt522.2 = 0 then ((cohousingref28_Same.f k bt514.1 bt522.1).bind fun t526 => (cohousinglaw28_FlowKnowledge.j1 k x0 x7 bt514.1 bt518.1 bt518.2 (!t526))) else (cohousinglaw28_FlowKnowledge.j1 k x0 x7 bt514.1 bt518.1 bt518.2 true))) else (if x7 = true then (if bt514.2 = 30 then (some (bt518.2 == 30)) else (some false)) else (some false)))))
def cohousinglaw28_FlowKnowledge.j1 : Nat → List (S44) → Bool → List (S39) → List (S39) → Int → Bool → Option (Bool)
 | 0, _, _, _, _, _, _ => none
 | k + 1, x0, x7, x11, x13, x14, x105 => if x105 = true then (some false) else (if x14 = 0 then (if (x11.length : Int) = (x0.length : Int) then (cohousinglaw28_FlowKnowledge.j2 k x7 x11 x13 ((x13.length : Int) != (x0.length : Int))) else (cohousinglaw28_FlowKnowledge.j2 k x7 x11 x13 true)) else (if x7 = true then (some (x14 == 30)) else (some false)))
def cohousinglaw28_FlowKnowledge.j2 : Nat → Bool → List (S39) → List (S39) → Bool → Option (Bool)
 | 0, _, _, _, _ => none
 | k + 1, x7, x11, x13, x124 => if x124 = true then (some false) else (cohousinglaw28_FlowKnowledge.l1 k x7 x11 x13 (x11.length : Int) 0)
def cohousinglaw28_FlowKnowledge.l1 : Nat → Bool → List (S39) → List (S39) → Int → Int → Option (Bool)
 | 0, _, _, _, _, _ => none
 | k + 1, x7, x11, x13, x126, x127 => if x127 < x126 then (if x7 = true then (if 0 ≤ x127 then (if x127 < (x11.length : Int) then (if x127 < (x13.length : Int) then (if ((rd_T39 x11 x127).f0) ≤ ((rd_T39 x13 x127).f0) then (if ((rd_T39 x13 x127).f0) ≤ ((rd_T39 x13 x127).f1) then (cohousinglaw28_FlowKnowledge.l1 k (decide (((rd_T39 x13 x127).f1) ≤ ((rd_T39 x11 x127).f1))) x11 x13 x126 (wrap64 (x127 + 1))) else (cohousinglaw28_FlowKnowledge.l1 k false x11 x13 x126 (wrap64 (x127 + 1)))) else (cohousinglaw28_FlowKnowledge.l1 k false x11 x13 x126 (wrap64 (x127 + 1)))) else (none)) else (none)) else (none)) else (cohousinglaw28_FlowKnowledge.l1 k false x11 x13 x126 (wrap64 (x127 + 1)))) else (some x7)
end
end Go.Proofs.Ytmojlpafpeeelaa.P
end
section
namespace Go.Proofs.Ytmojlpafpeeelaa.P
open Go.RowKit Go.Proofs.YtmojlpafpeeelaaW.PrintWords Go.Proofs.YtmojlpafpeeelaaW.PrintLast Go.Proofs.YtmojlpafpeeelaaW.PrintMore Go.Proofs.YtmojlpafpeeelaaH Go.Proofs.FlowTree
open Classical
theorem exact_sol {l : List PI} {lo hi : Nat → Int} {d : List IV} (h : Exact l lo hi d) : ∃ x, Sol (netT l) lo hi x := by
 by_cases h0 : l.length = 0
 ·refine ⟨fun _ => 0, fun i hi => ?_, fun i hi => ?_⟩
  ·have : i < l.length := hi
   omega
  ·have : i < l.length := hi
   omega
 ·have r := h.rng 0 (by omega)
  obtain ⟨x, hx, _⟩ := h.had 0 (by omega) (Lo d 0) (by omega) (by omega)
  exact ⟨x, hx⟩
end Go.Proofs.Ytmojlpafpeeelaa.P
end
section
namespace Go.Proofs.Ytmojlpafpeeelaa.P
open Go.RowKit Go.Proofs.YtmojlpafpeeelaaW.PrintWords Go.Proofs.YtmojlpafpeeelaaW.PrintLast Go.Proofs.YtmojlpafpeeelaaW.PrintMore Go.Proofs.YtmojlpafpeeelaaH Go.Proofs.FlowTree
open Classical
theorem pp_set (r : List PI) (i j : Nat) (y : PI) (hi : i < r.length) : rd_T44 (r.set i y) (j : Int) = if i = j then y else rd_T44 r (j : Int) := by
 simp only [rd_T44, List.getD_eq_getElem?_getD, Int.toNat_natCast, List.getElem?_set]
 by_cases e : i = j
 ·subst e; simp [hi]
 ·simp [e]
theorem leaf_ev (p : List PI) (hn : p.length ≤ 200) (i : Nat) (hi : i < p.length) : Ev (fun k => cohousingref28_Leaf.f k p (i : Int)) (decide (kidsAt p p.length i = [])) := by
 unfold cohousingref28_Leaf.f
 refine Ev.bnd (below_f' p hn i hi) ?_
 have e : ((((kidsAt p p.length i).map Int.ofNat).length : Int) == 0) = decide (kidsAt p p.length i = []) := by
  rw [List.length_map]
  cases h : kidsAt p p.length i with
  | nil => simp
  | cons a s => simp; omega
 rw [e]
 exact Ev.pure _
def vOf (x : List Int) (j : Nat) : Int := if Int.tmod (fx x j) 1000000001 < 0 then -(Int.tmod (fx x j) 1000000001) else Int.tmod (fx x j) 1000000001
theorem tmod_bd (a : Int) : -1000000001 < Int.tmod a 1000000001 ∧ Int.tmod a 1000000001 < 1000000001 := ⟨Int.lt_tmod_of_pos a (by decide), Int.tmod_lt_of_pos a (by decide)⟩
theorem vOf_bd (x : List Int) (j : Nat) : 0 ≤ vOf x j ∧ vOf x j ≤ 1000000000 := by
 have := tmod_bd (fx x j)
 unfold vOf
 split <;> omega
section
variable (p : List PI) (x : List Int)
def baseOf (j : Nat) : Int := if kidsAt p p.length j = [] then vOf x j else 0
def knownOf (j : Nat) : RG := if kidsAt p p.length j = [] then ⟨vOf x j, vOf x j⟩ else ⟨0, 1000000000⟩
theorem baseOf_bd (j : Nat) : 0 ≤ baseOf p x j ∧ baseOf p x j ≤ 1000000000 := by
 have := vOf_bd x j
 unfold baseOf
 split <;> omega
structure SumAt (m : Nat) (s : List Int) (most : Int) : Prop where
 len : s.length = p.length
 bd : ∀ j, j < p.length → 0 ≤ fx s j ∧ fx s j ≤ 40000000000
 eq : ∀ j, j < p.length → fx s j = baseOf p x j + sm (fx s) ((kidsAt p p.length j).filter (fun k => decide (m ≤ k)))
 tot : sm (fx s) (List.range m) ≤ 40000000000
 top : 0 ≤ most ∧ ∀ j, m ≤ j → j < p.length → fx s j ≤ most
 had : most = 0 ∨ ∃ j, m ≤ j ∧ j < p.length ∧ fx s j = most
end
theorem sm_filter (f : Nat → Int) (i : Nat) (ks : List Nat) (hn : ks.Nodup) : sm f (ks.filter (fun k => decide (i ≤ k))) = (if i ∈ ks then f i else 0) + sm f (ks.filter (fun k => decide (i + 1 ≤ k))) := by
 induction ks with
 | nil => simp [sm_nil]
 | cons k ks ih =>
  rw [List.nodup_cons] at hn
  have ih' := ih hn.2
  by_cases e : i = k
  ·subst e
   have h1 : ¬ (i + 1 ≤ i) := by omega
   rw [if_neg hn.1] at ih'
   simp only [List.filter_cons, Nat.le_refl, decide_true, if_true, h1, decide_false, Bool.false_eq_true, if_false, sm_cons, List.mem_cons, true_or, ih']
   omega
  ·by_cases h : i ≤ k
   ·have h1 : i + 1 ≤ k := by omega
    simp only [List.filter_cons, h, h1, decide_true, if_true, sm_cons, List.mem_cons, e, false_or, ih']
    omega
   ·have h1 : ¬ i + 1 ≤ k := by omega
    simp only [List.filter_cons, h, h1, decide_false, Bool.false_eq_true, if_false, List.mem_cons, e, false_or, ih']
theorem sm_one_more (id : Nat → Int) (c a : Int) (ha : 0 ≤ a) (f : Nat → Int) : ∀ m, (∀ i j, i < m → j < m → id i = id j → i = j) → sm (fun j => if id j = c then f j + a else f j) (List.range m) ≤ sm f (List.range m) + a := by
 intro m
 induction m with
 | zero => intro _; simp [sm_nil]; exact ha
 | succ m ih =>
  intro hinj
  rw [List.range_succ, sm_append, sm_append, sm_cons, sm_cons, sm_nil, sm_nil]
  by_cases e : id m = c
  ·have : sm (fun j => if id j = c then f j + a else f j) (List.range m) = sm f (List.range m) := by
    refine sm_congr (fun j hj => ?_)
    have hj' := List.mem_range.1 hj
    have : id j ≠ c := fun h => by have := hinj j m (by omega) (by omega) (by rw [h, e]); omega
    simp only [this, if_false]
   rw [this]
   simp only [e, if_true]
   omega
  ·have := ih (fun i j h1 h2 h3 => hinj i j (by omega) (by omega) h3)
   simp only [e, if_false]
   omega
theorem sm_range_succ (f : Nat → Int) (m : Nat) : sm f (List.range (m + 1)) = sm f (List.range m) + f m := by
 rw [List.range_succ, sm_append, sm_cons, sm_nil]; omega
section
variable {p : List PI} {x : List Int}
theorem sum_step (hok : okL p) {i : Nat} {s s' : List Int} {most : Int} (hi : i < p.length) (h : SumAt p x (i + 1) s most) (hl : s'.length = p.length)
  (hs : ∀ j, j < p.length → fx s' j = if j < i ∧ idP p j = abP p i then fx s j + fx s i else fx s j) : SumAt p x i s' (mx most (fx s i)) := by
 have hbi := h.bd i hi
 have hge : ∀ j, j < p.length → i ≤ j → fx s' j = fx s j := fun j hj hij => by rw [hs j hj, if_neg (fun hh => by omega)]
 have hnn : ∀ j, j < p.length → 0 ≤ fx s' j := fun j hj => by
  have := h.bd j hj
  rw [hs j hj]
  split <;> omega
 have htot : sm (fx s') (List.range i) ≤ 40000000000 := by
  have h1 := h.tot
  rw [sm_range_succ] at h1
  have h2 := sm_one_more (idP p) (abP p i) (fx s i) hbi.1 (fx s) i (fun a b ha hb e => id_inj (m := p.length) hok (by omega) (by omega) e)
  have h3 : sm (fx s') (List.range i) = sm (fun j => if idP p j = abP p i then fx s j + fx s i else fx s j) (List.range i) := by
   refine sm_congr (fun j hj => ?_)
   have hj' := List.mem_range.1 hj
   rw [hs j (by omega)]
   simp only [hj', true_and]
  omega
 refine ⟨hl, fun j hj => ⟨hnn j hj, ?_⟩, fun j hj => ?_, htot, ?_, ?_⟩
 ·by_cases hij : i ≤ j
  ·rw [hge j hj hij]; exact (h.bd j hj).2
  ·have := sm_ge (f := fx s') (ks := List.range i) (fun k hk => hnn k (by have := List.mem_range.1 hk; omega)) (k := j) (List.mem_range.2 (by omega))
   omega
 ·have hnd : (kidsAt p p.length j).Nodup := (netT_ok hok).nodup j
  have hc : ∀ k ∈ (kidsAt p p.length j).filter (fun k => decide (i ≤ k)), fx s' k = fx s k := fun k hk => by
   rw [List.mem_filter] at hk
   have h1 := kidsAt_mem.1 hk.1
   exact hge k h1.1 (by simpa using hk.2)
  rw [sm_congr hc, sm_filter (fx s) i _ hnd, hs j hj]
  have he := h.eq j hj
  by_cases hm : j < i ∧ idP p j = abP p i
  ·have : i ∈ kidsAt p p.length j := kidsAt_mem.2 ⟨hi, hm.1, hm.2.symm⟩
   rw [if_pos hm, if_pos this]
   omega
  ·have : i ∉ kidsAt p p.length j := fun hh => hm (by have := kidsAt_mem.1 hh; exact ⟨this.2.1, this.2.2.symm⟩)
   rw [if_neg hm, if_neg this]
   omega
 ·rw [mx_max]
  refine ⟨by have := h.top.1; omega, fun j h1 h2 => ?_⟩
  rw [hge j h2 h1]
  by_cases e : j = i
  ·subst e; omega
  ·have := h.top.2 j (by omega) h2; omega
 ·rw [mx_max]
  have h0 := h.top.1
  by_cases c : most ≤ fx s i
  ·exact .inr ⟨i, Nat.le_refl _, hi, by rw [hge i hi (Nat.le_refl _)]; omega⟩
  ·rcases h.had with e | ⟨j, h1, h2, h3⟩
   ·omega
   ·exact .inr ⟨j, by omega, h2, by rw [hge j h2 (by omega), h3]; omega⟩
theorem sums_only (hok : okL p) (h0 : ∀ j, j < p.length → loP p j = 0) {s : List Int} {most : Int} (h : SumAt p x 0 s most) {K : List RG} (hK : ∀ j, j < p.length → rr K j = knownOf p x j) {y : Nat → Int} (hy : Sol (netT p) (lo9 K) (hi9 K) y) :
  ∀ d j, d + j = p.length → ∀ i, j ≤ i → i < p.length → y i = fx s i := by
 intro d
 induction d with
 | zero => intro j hj i h1 h2; omega
 | succ d ih =>
  intro j hj i h1 h2
  by_cases e : i = j
  case neg => exact ih (j + 1) (by omega) i (by omega) h2
  subst e
  have he := h.eq i h2
  have hf : (kidsAt p p.length i).filter (fun k => decide (0 ≤ k)) = kidsAt p p.length i := by
   rw [List.filter_eq_self]; intro k _; simp
  rw [hf] at he
  by_cases hk : kidsAt p p.length i = []
  ·have hr := hy.1 i h2
   simp only [lo9, hi9, hK i h2, knownOf, hk, if_true] at hr
   simp only [baseOf, hk, if_true, sm_nil] at he
   omega
  ·have hq := hy.2 i h2 hk
   have e1 : (netT p).kid i = kidsAt p p.length i := rfl
   have e2 : (netT p).loss i = loP p i := rfl
   rw [e1, e2, h0 i h2] at hq
   have e3 : sm y (kidsAt p p.length i) = sm (fx s) (kidsAt p p.length i) := sm_congr (fun k hk' => by
    have := kidsAt_mem.1 hk'
    exact ih (i + 1) (by omega) k (by omega) this.1)
   rw [e3] at hq
   simp only [baseOf, hk, if_false] at he
   omega
theorem sums_are (hok : okL p) (h0 : ∀ j, j < p.length → loP p j = 0) {s : List Int} {most : Int} (h : SumAt p x 0 s most) {K : List RG} (hK : ∀ j, j < p.length → rr K j = knownOf p x j) (hm : most ≤ 1000000000) : Sol (netT p) (lo9 K) (hi9 K) (fx s) := by
 have _ := hok
 have hf : ∀ i, (kidsAt p p.length i).filter (fun k => decide (0 ≤ k)) = kidsAt p p.length i := fun i => by
  rw [List.filter_eq_self]; intro k _; simp
 refine ⟨fun i hi => ?_, fun i hi hk => ?_⟩
 ·have hi' : i < p.length := hi
  have h1 := h.bd i hi'
  have h2 := h.top.2 i (Nat.zero_le _) hi'
  have he := h.eq i hi'
  rw [hf] at he
  simp only [lo9, hi9, hK i hi', knownOf]
  by_cases hk : kidsAt p p.length i = []
  ·simp only [baseOf, hk, if_true, sm_nil] at he ⊢
   omega
  ·simp only [hk, if_false]
   omega
 ·have hi' : i < p.length := hi
  have e1 : (netT p).kid i = kidsAt p p.length i := rfl
  have e2 : (netT p).loss i = loP p i := rfl
  have he := h.eq i hi'
  rw [hf] at he
  rw [e1] at hk ⊢
  rw [e2, h0 i hi']
  simp only [baseOf, hk, if_false] at he
  omega
theorem known_good (hok : okL p) (hn : p.length ≤ 40) {K : List RG} (hl : K.length = p.length) (hK : ∀ j, j < p.length → rr K j = knownOf p x j) : Good p K := by
 refine ⟨hok, by omega, hl, fun j hj => ?_⟩
 have := vOf_bd x j
 simp only [lo9, hi9, hK j hj, knownOf]
 split <;> simp only <;> omega
theorem subm_l4 {n : Nat} {d : List IV} {s : List Int} (hn : n ≤ 200) (hd : d.length = n) (hs : s.length = n) (h : ∀ j, j < n → Lo d j = fx s j ∧ Hi d j = fx s j) : ∀ e i : Nat, i + e = n →
  Ev (fun k => cohousinglaw28_FlowSubmeters.l4 k true s (d.map toR) (n : Int) (i : Int)) true := by
 intro e
 induction e with
 | zero =>
  intro i hi
  have h1 : ¬ ((i : Int) < (n : Int)) := by omega
  refine Ev.step ?_
  simp only [cohousinglaw28_FlowSubmeters.l4, h1, if_false]
  exact Ev.pure _
 | succ e ih =>
  intro i hi
  have h1 : ((i : Int) < (n : Int)) := by omega
  have h2 : (0 : Int) ≤ (i : Int) := by omega
  have h3 : ((i : Int) < ((d.map toR).length : Int)) := by rw [List.length_map, hd]; exact h1
  have h4 : ((i : Int) < (s.length : Int)) := by rw [hs]; exact h1
  have hh := h i (by omega)
  have e1 : (rd_T39 (d.map toR) (i : Int)).f0 = rd s (i : Int) := (congrFun (lo_map d) i).trans hh.1
  have e2 : (rd_T39 (d.map toR) (i : Int)).f1 = rd s (i : Int) := (congrFun (hi_map d) i).trans hh.2
  refine Ev.step ?_
  simp only [cohousinglaw28_FlowSubmeters.l4, h1, h2, h3, h4, e1, e2, if_true, beq_self_eq_true, wrap_nat (show i ≤ 140737488355328 by omega)]
  exact ih (i + 1) (by omega)
theorem subm_end (hok : okL p) (hn : p.length ≤ 40) (h0 : ∀ j, j < p.length → loP p j = 0) {s : List Int} {most : Int} (h : SumAt p x 0 s most) {K : List RG} (hl : K.length = p.length) (hK : ∀ j, j < p.length → rr K j = knownOf p x j) :
  Ev (fun k => cohousinglaw28_FlowSubmeters.l2 k true p s K most (-1)) true := by
 have hg := known_good hok hn hl hK
 have fb := B_f p K [] (by omega) (by omega) (by simp)
 have ib := boundsR_is p K
 have n1 : ¬ ((-1 : Int) ≥ 0) := by omega
 have n30 : ((30 : Int) = 0) = False := by simp
 have honly := fun {y : Nat → Int} (hy : Sol (netT p) (lo9 K) (hi9 K) y) => fun j (hj : j < p.length) => sums_only hok h0 h hK hy p.length 0 (by omega) j (Nat.zero_le _) hj
 generalize hq : boundsR p K = q at ib fb
 refine Ev.step ?_
 by_cases hm : most > 1000000000
 ·have hno : ¬ ∃ y, Sol (netT p) (lo9 K) (hi9 K) y := by
   rintro ⟨y, hy⟩
   rcases h.had with e | ⟨j, _, hj, e⟩
   ·omega
   ·have h1 := honly hy j hj
    have h2 := hy.1 j hj
    have h3 := (hg.vol j hj).2.2
    omega
  cases ib with
  | arg hb => exact absurd hg hb
  | ok d _ hd => exact absurd (exact_sol hd) hno
  | flow _ _ =>
   simp only [cohousinglaw28_FlowSubmeters.l2, n1, if_false, fb, Option.bind_some, hm, if_true, beq_self_eq_true]
   exact Ev.pure _
 ·have hs := sums_are hok h0 h hK (by omega)
  cases ib with
  | arg hb => exact absurd hg hb
  | flow _ hb => exact absurd ⟨_, hs⟩ hb
  | ok d _ hd =>
   have n2 : ((((d.map toR).length : Nat) : Int) != (p.length : Int)) = false := by rw [List.length_map, hd.len]; simp
   have n3 : (((d.map toR).length : Nat) : Int) = (p.length : Int) := by rw [List.length_map, hd.len]
   simp only [cohousinglaw28_FlowSubmeters.l2, n1, if_false, fb, Option.bind_some, hm, if_true, n2]
   refine Ev.step ?_
   simp only [cohousinglaw28_FlowSubmeters.j5, Bool.false_eq_true, if_false, n3]
   refine subm_l4 (n := p.length) (by omega) hd.len h.len (fun j hj => ?_) p.length 0 (by omega)
   have r := hd.rng j hj
   obtain ⟨y1, s1, e1⟩ := hd.had j hj (Lo d j) (by omega) (by omega)
   obtain ⟨y2, s2, e2⟩ := hd.had j hj (Hi d j) (by omega) (by omega)
   have g1 := honly s1 j hj
   have g2 := honly s2 j hj
   omega
theorem subm_l3 (hn : p.length ≤ 40) {s : List Int} {i : Nat} (hi : i < p.length) (hbd : ∀ j, j < p.length → 0 ≤ fx s j ∧ fx s j ≤ 40000000000) {K : List RG} {most : Int}
  (hend : ∀ s' : List Int, s'.length = p.length → (∀ j, j < p.length → fx s' j = if j < i ∧ idP p j = abP p i then fx s j + fx s i else fx s j) → Ev (fun k => cohousinglaw28_FlowSubmeters.l2 k true p s' K most ((i : Int) - 1)) true) :
  ∀ (d q : Nat) (s' : List Int), q + d = i → s'.length = p.length → (∀ j, j < p.length → fx s' j = if j < q ∧ idP p j = abP p i then fx s j + fx s i else fx s j) →
  Ev (fun k => cohousinglaw28_FlowSubmeters.l3 k true p s' K most (i : Int) (i : Int) (q : Int)) true := by
 intro d
 induction d with
 | zero =>
  intro q s' hq hl hs
  have e : q = i := by omega
  subst e
  have h1 : ¬ ((q : Int) < (q : Int)) := by omega
  refine Ev.step ?_
  have hw : wrap64 ((q : Int) - 1) = (q : Int) - 1 := wrap_id (by omega) (by omega)
  simp only [cohousinglaw28_FlowSubmeters.l3, h1, if_false, hw]
  exact hend s' hl hs
 | succ d ih =>
  intro q s' hq hl hs
  have hqp : q < p.length := by omega
  have h1 : ((q : Int) < (i : Int)) := by omega
  have h2 : (0 : Int) ≤ (q : Int) := by omega
  have h3 : ((q : Int) < (p.length : Int)) := by omega
  have h4 : (0 : Int) ≤ (i : Int) := by omega
  have h5 : ((i : Int) < (p.length : Int)) := by omega
  have h6 : ((q : Int) < (s'.length : Int)) := by rw [hl]; exact h3
  have h7 : ((i : Int) < (s'.length : Int)) := by rw [hl]; exact h5
  have hw := wrap_nat (show q ≤ 140737488355328 by omega)
  have q1 : (rd_T44 p (q : Int)).f0 = idP p q := rfl
  have q2 : (rd_T44 p (i : Int)).f1 = abP p i := rfl
  have q3 : rd s' (q : Int) = fx s q := by have := hs q hqp; rw [if_neg (fun hh => by omega)] at this; exact this
  have q4 : rd s' (i : Int) = fx s i := by have := hs i hi; rw [if_neg (fun hh => by omega)] at this; exact this
  refine Ev.step ?_
  by_cases c : idP p q = abP p i
  ·have b1 := hbd q hqp
   have b2 := hbd i hi
   have w := wrap_id (n := fx s q + fx s i) (by omega) (by omega)
   simp only [cohousinglaw28_FlowSubmeters.l3, h1, h2, h3, h4, h5, h6, h7, if_true, q1, q2, c, q3, q4, w, hw, Int.toNat_natCast]
   refine ih (q + 1) _ (by omega) (by rw [List.length_set, hl]) (fun j hj => ?_)
   rw [fx_set s' q j _ (by omega)]
   by_cases e : q = j
   ·subst e
    rw [if_pos rfl, if_pos ⟨by omega, c⟩]
   ·rw [if_neg e, hs j hj]
    by_cases c2 : j < q ∧ idP p j = abP p i
    ·rw [if_pos c2, if_pos ⟨by omega, c2.2⟩]
    ·rw [if_neg c2, if_neg (fun hh => c2 ⟨by omega, hh.2⟩)]
  ·simp only [cohousinglaw28_FlowSubmeters.l3, h1, h2, h3, h4, h5, if_true, q1, q2, c, if_false, hw]
   refine ih (q + 1) s' (by omega) hl (fun j hj => ?_)
   rw [hs j hj]
   by_cases c2 : j < q ∧ idP p j = abP p i
   ·rw [if_pos c2, if_pos ⟨by omega, c2.2⟩]
   ·rw [if_neg c2, if_neg (fun hh => c2 ⟨by
     by_cases e : j = q
     ·subst e; exact absurd hh.2 c
     ·omega, hh.2⟩)]
theorem subm_l2 (hok : okL p) (hn : p.length ≤ 40) (h0 : ∀ j, j < p.length → loP p j = 0) {K : List RG} (hl : K.length = p.length) (hK : ∀ j, j < p.length → rr K j = knownOf p x j) : ∀ (m : Nat) (s : List Int) (most : Int), m ≤ p.length → SumAt p x m s most →
  Ev (fun k => cohousinglaw28_FlowSubmeters.l2 k true p s K most ((m : Int) - 1)) true := by
 intro m
 induction m with
 | zero =>
  intro s most _ h
  exact subm_end hok hn h0 h hl hK
 | succ m ih =>
  intro s most hm h
  have e : ((m + 1 : Nat) : Int) - 1 = (m : Int) := by omega
  rw [e]
  have h1 : ((m : Int) ≥ 0) := by omega
  have h2 : (0 : Int) ≤ (m : Int) := by omega
  have h3 : ((m : Int) < (s.length : Int)) := by rw [h.len]; omega
  refine Ev.step ?_
  simp only [cohousinglaw28_FlowSubmeters.l2, h1, h2, h3, if_true]
  refine subm_l3 (s := s) hn (i := m) (by omega) h.bd (fun s' hl' hs' => ih s' _ (by omega) (sum_step hok (by omega) h hl' hs')) m 0 s (by omega) h.len (fun j _ => by rw [if_neg (fun hh => absurd hh.1 (Nat.not_lt_zero _))])
theorem sum_start (hok : okL p) (hn : p.length ≤ 40) {s : List Int} (hl : s.length = p.length) (hs : ∀ j, j < p.length → fx s j = baseOf p x j) : SumAt p x p.length s 0 := by
 have _ := hok
 refine ⟨hl, fun j hj => ?_, fun j hj => ?_, ?_, ⟨Int.le_refl _, fun j h1 h2 => by omega⟩, .inl rfl⟩
 ·have := baseOf_bd p x j
  rw [hs j hj]; omega
 ·have : (kidsAt p p.length j).filter (fun k => decide (p.length ≤ k)) = [] := by
   rw [List.filter_eq_nil_iff]
   intro k hk
   have := (kidsAt_mem.1 hk).1
   simp; omega
  rw [this, sm_nil, hs j hj]; omega
 ·have := (sm_bound (f := fx s) (ks := List.range p.length) (a := 0) (b := 1000000000) (fun k hk => by
   rw [hs k (List.mem_range.1 hk)]; exact baseOf_bd p x k)).2
  rw [List.length_range] at this
  omega
theorem subm_l1 (hok : okL p) (hn : p.length ≤ 40) (h0 : ∀ j, j < p.length → loP p j = 0) (hx : p.length ≤ x.length) : ∀ (d i : Nat) (s : List Int) (K : List RG), i + d = p.length → s.length = p.length → (∀ j, j < p.length → fx s j = if j < i then baseOf p x j else 0) →
  K.length = i → (∀ j, j < i → rr K j = knownOf p x j) → Ev (fun k => cohousinglaw28_FlowSubmeters.l1 k x true p s K (p.length : Int) (i : Int)) true := by
 intro d
 induction d with
 | zero =>
  intro i s K hi hl hs hKl hK
  have e : i = p.length := by omega
  subst e
  have h1 : ¬ ((p.length : Int) < (p.length : Int)) := by omega
  have hw : wrap64 ((p.length : Int) - 1) = (p.length : Int) - 1 := wrap_id (by omega) (by omega)
  refine Ev.step ?_
  simp only [cohousinglaw28_FlowSubmeters.l1, h1, if_false, hw]
  exact subm_l2 hok hn h0 hKl hK p.length s 0 (Nat.le_refl _) (sum_start hok hn hl (fun j hj => by rw [hs j hj, if_pos hj]))
 | succ d ih =>
  intro i s K hi hl hs hKl hK
  have hip : i < p.length := by omega
  have h1 : ((i : Int) < (p.length : Int)) := by omega
  have h2 : (0 : Int) ≤ (i : Int) := by omega
  have h3 : ((i : Int) < (x.length : Int)) := by omega
  have h4 : ((i : Int) < (s.length : Int)) := by omega
  have h5 : K.length < 8796093022208 := by omega
  have hw := wrap_nat (show i ≤ 140737488355328 by omega)
  have hlf := leaf_ev p (by omega) i hip
  have hKs : ∀ y : RG, y = knownOf p x i → ∀ j, j < i + 1 → rr (K ++ [y]) j = knownOf p x j := by
   intro y hy j hj
   simp only [rr, rd_T39, List.getD_eq_getElem?_getD, Int.toNat_natCast]
   by_cases e : j = i
   ·subst e
    rw [List.getElem?_append_right (by omega), hKl]
    simp [hy]
   ·rw [List.getElem?_append_left (by omega)]
    have := hK j (by omega)
    simpa only [rr, rd_T39, List.getD_eq_getElem?_getD, Int.toNat_natCast] using this
  refine Ev.step ?_
  simp only [cohousinglaw28_FlowSubmeters.l1, h1, if_true]
  refine Ev.bnd hlf ?_
  by_cases hk : kidsAt p p.length i = []
  ·rw [decide_eq_true hk]
   have hset : ∀ j, j < p.length → fx (s.set i (vOf x i)) j = if j < i + 1 then baseOf p x j else 0 := by
    intro j hj
    rw [fx_set s i j _ (by omega)]
    by_cases e : i = j
    ·subst e
     rw [if_pos rfl, if_pos (Nat.lt_succ_self _)]
     simp only [baseOf, hk, if_true]
    ·rw [if_neg e, hs j hj]
     by_cases c : j < i
     ·rw [if_pos c, if_pos (by omega)]
     ·rw [if_neg c, if_neg (by omega)]
   have g := ih (i + 1) (s.set i (vOf x i)) (K ++ [⟨vOf x i, vOf x i⟩]) (by omega) (by rw [List.length_set, hl]) hset (by rw [List.length_append, hKl]; rfl) (hKs _ (by simp only [knownOf, hk, if_true]))
   have hb := tmod_bd (rd x (i : Int))
   by_cases c : Int.tmod (rd x (i : Int)) 1000000001 < 0
   ·have e1 : wrap64 (-(Int.tmod (rd x (i : Int)) 1000000001)) = vOf x i := by
     unfold vOf
     rw [if_pos c]
     exact wrap_id (by omega) (by omega)
    simp only [if_true, h2, h3, h4, h5, c, e1, hw, Int.toNat_natCast]
    exact g
   ·have e1 : Int.tmod (rd x (i : Int)) 1000000001 = vOf x i := by
     unfold vOf
     rw [if_neg c]
    simp only [if_true, if_false, h2, h3, h4, h5, c, hw, Int.toNat_natCast]
    rw [e1]
    exact g
  ·rw [decide_eq_false hk]
   simp only [Bool.false_eq_true, if_false, h5, if_true, hw]
   refine ih (i + 1) s _ (by omega) hl (fun j hj => ?_) (by rw [List.length_append, hKl]; rfl) (hKs _ (by simp only [knownOf, hk, if_false]))
   rw [hs j hj]
   by_cases e : j = i
   ·subst e
    rw [if_neg (Nat.lt_irrefl _), if_pos (Nat.lt_succ_self _)]
    simp only [baseOf, hk, if_false]
   ·by_cases c : j < i
    ·rw [if_pos c, if_pos (by omega)]
    ·rw [if_neg c, if_neg (by omega)]
end
theorem subm_l0 {x : List Int} : ∀ (d i : Nat) (p : List PI), i + d = p.length → p.length ≤ 5864062014805 → (∀ j, j < i → loP p j = 0) →
  Ev (fun k => cohousinglaw28_FlowSubmeters.l0 k x true p (p.length : Int) (i : Int)) true := by
 intro d
 induction d with
 | zero =>
  intro i p hi hB h0
  have e : i = p.length := by omega
  subst e
  have h1 : ¬ ((p.length : Int) < (p.length : Int)) := by omega
  have hout : Ev (fun k => cohousinglaw28_FlowSubmeters.j1 k x true p true) true := by
   refine Ev.step ?_
   simp only [cohousinglaw28_FlowSubmeters.j1, if_true]
   exact Ev.pure _
  refine Ev.step ?_
  by_cases c1 : (p.length : Int) > 40
  ·simp only [cohousinglaw28_FlowSubmeters.l0, h1, if_false, c1, if_true]
   exact hout
  by_cases c2 : (x.length : Int) < (p.length : Int)
  ·simp only [cohousinglaw28_FlowSubmeters.l0, h1, if_false, c1, c2, if_true]
   exact hout
  simp only [cohousinglaw28_FlowSubmeters.l0, h1, if_false, c1, c2, V_f p [] [] (by omega) (by simp) (by simp), Option.bind_some]
  by_cases hv : okL p ∧ p.length ≤ 200
  ·rw [decide_eq_true hv]
   refine Ev.step ?_
   have h2 : (0 : Int) ≤ (p.length : Int) := by omega
   have h3 : p.length ≤ 35184372088832 := by omega
   simp only [cohousinglaw28_FlowSubmeters.j1, Bool.not_true, Bool.false_eq_true, if_false, h2, if_true, Int.toNat_natCast, h3]
   refine subm_l1 hv.1 (by omega) h0 (by omega) p.length 0 _ [] (by omega) (by rw [List.length_replicate]) (fun j hj => ?_) rfl (fun j hj => absurd hj (Nat.not_lt_zero _))
   rw [if_neg (Nat.not_lt_zero _)]
   simp [fx, rd, List.getD_eq_getElem?_getD, List.getElem?_replicate, hj]
  ·rw [decide_eq_false hv]
   exact hout
 | succ d ih =>
  intro i p hi hB h0
  have hip : i < p.length := by omega
  have h1 : ((i : Int) < (p.length : Int)) := by omega
  have h2 : (0 : Int) ≤ (i : Int) := by omega
  have hw : wrap64 ((i : Int) + 1) = ((i + 1 : Nat) : Int) := wrap_nat (by omega)
  refine Ev.step ?_
  simp only [cohousinglaw28_FlowSubmeters.l0, h1, h2, if_true, hw, Int.toNat_natCast]
  have hset : ∀ y : PI, (p.set i y).length = p.length := fun y => List.length_set
  have := ih (i + 1) (p.set i ⟨(rd_T44 p (i : Int)).f0, (rd_T44 p (i : Int)).f1, 0⟩) (by rw [hset]; omega) (by rw [hset]; exact hB) (fun j hj => by
   simp only [loP]
   rw [pp_set p i j _ hip]
   by_cases e : i = j
   ·rw [if_pos e]
   ·rw [if_neg e]; exact h0 j (by omega))
  rw [hset] at this
  exact this
theorem subm_ (l : List PI) (x : List Int) (hl : l.length ≤ 5864062014804) (_hx : x.length ≤ 17592186044416) : Ev (fun k => cohousinglaw28_FlowSubmeters.f k l x) true := by
 unfold cohousinglaw28_FlowSubmeters.f
 refine Ev.bnd head_ev ?_
 have h1 : ([] : List PI).length + l.length < 5864062014805 := by simp only [List.length_nil]; omega
 simp only [Option.bind_some, h1, if_true, List.nil_append]
 exact subm_l0 l.length 0 l (by omega) (by omega) (fun j hj => absurd hj (Nat.not_lt_zero _))
end Go.Proofs.Ytmojlpafpeeelaa.P
end
