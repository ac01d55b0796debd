/- Part 5 of the base that the seat's proofs share: words, walks and plain laws. -/
import Derived.ArgAppend
import Derived.Below
import Derived.BigQuiet
import Derived.ChangeOld
import Derived.ChangeSlices
import Derived.Deep.AppendLies
import Derived.Deep.CutBlock
import Derived.Deep.DeepCutAuto
import Derived.Deep.Draws
import Derived.Deep.LoopGhost
import Derived.Deep.OwnRows
import Derived.Deep.QuietTactic
import Derived.Deep.RegionHeld3
import Derived.Deep.Slices
import Derived.KernelRfl
import Derived.Laws.BitsLemmas
import Derived.Laws.BytesArg
import Derived.Laws.IdiomCopy
import Derived.Laws.MakeOwn
import Derived.Laws.OwnMore
import Derived.Laws.Rows
import Derived.Laws.Slices
import Derived.Laws.StructEq
import Derived.Lib.AppendStr
import Derived.Lib.BufferOwn
import Derived.Lib.ConvBytes
import Derived.Lib.SliceRun
import Derived.LoopIn
import Derived.LoopNIn
import Derived.Maps.AppendAt
import Derived.Maps.Own
import Derived.OpenShut
import Derived.OrdersHeld
import Derived.OwnWalk
import Derived.OwnWalkIn
import Derived.ProofKit
import Derived.RangeFuncBound
import Derived.RangeFuncCalls
import Derived.RangeFuncLeaves
import Derived.RangeFuncNested
import Derived.RowKit
import Derived.RowKit3
import Derived.ShutString
import Derived.SizedLaws
import Derived.Tactics
import Derived.TacticsInMore
import Derived.Test.YtolmjhpapidmhaaProg
import Derived.WalkKit
import Derived.WideLaws
import Derived.Test.YtolmjhpapidmhaaCBd
set_option linter.unusedVariables false
set_option linter.unusedSimpArgs false
section
namespace Go.Proofs.Ytolmjhpapidmhaa.P
open Go.RowKit Go.Proofs.YtolmjhpapidmhaaW.PrintWords Go.Proofs.YtolmjhpapidmhaaW.PrintLast Go.Proofs.YtolmjhpapidmhaaW.PrintMore
attribute [local go_sem] max2_int min2_int max_two min_two max_three min_three max_four min_four
set_option linter.unusedVariables false
set_option linter.unusedSimpArgs false
set_option maxHeartbeats 8000000
set_option maxRecDepth 100000
section
mutual
def cohousingref30_Sure.l0 : Nat → List (List Int) → List Int → Int → Option (List Int × Int)
 | 0, _, _, _ => none
 | k + 1, x9, x10, x11 => if 0 < (x9.length : Int) then (if x11 < ((rd_L3 x9 0).length : Int) then (cohousingref30_Sure.l1 k x9 x10 x11 0 0) else (some (x10, 0))) else (none)
def cohousingref30_Sure.l1 : Nat → List (List Int) → List Int → Int → Int → Int → Option (List Int × Int)
 | 0, _, _, _, _, _ => none
 | k + 1, x9, x10, x11, x12, x13 => if x13 < (x9.length : Int) then (if 0 ≤ x13 then (if 0 < (x9.length : Int) then (if 0 ≤ x11 then (if x11 < ((rd_L3 x9 0).length : Int) then ((cohousingref30_Has.f k (rd_L3 x9 x13) (rd (rd_L3 x9 0) x11)).bind fun t315 => (if t315 = true then (cohousingref30_Sure.l1 k x9 x10 x11 (wrap64 (x12 + 1)) (wrap64 (x13 + 1))) else (cohousingref30_Sure.l1 k x9 x10 x11 x12 (wrap64 (x13 + 1))))) else (none)) else (none)) else (none)) else (none)) else (if x12 = (x9.length : Int) then (if 0 < (x9.length : Int) then (if 0 ≤ x11 then (if x11 < ((rd_L3 x9 0).length : Int) then (if x10.length < 17592186044416 then (cohousingref30_Sure.l0 k x9 (x10 ++ [rd (rd_L3 x9 0) x11]) (wrap64 (x11 + 1))) else (none)) else (none)) else (none)) else (none)) else (cohousingref30_Sure.l0 k x9 x10 (wrap64 (x11 + 1))))
end
def cohousingref30_Sure.f (k : Nat) (l0 : List (S44)) (l1 : List (S46)) (a2 : Int) : Option (List Int × Int) := (cohousingref30_check.f k l0 l1 a2).bind fun t307 => (if t307 = 0 then ((cohousingref30_smallest.f k l0 l1 a2).bind fun t308 => (if (t308.length : Int) = 0 then (some (([] : List Int), 4)) else (cohousingref30_Sure.l0 k t308 ([] : List Int) 0))) else (some (([] : List Int), t307)))
theorem cohousingref30_Sure.mono_l : ∀ k, (∀ y0 y1 y2, LeO (cohousingref30_Sure.l0 k y0 y1 y2) (cohousingref30_Sure.l0 (k + 1) y0 y1 y2)) ∧ (∀ y0 y1 y2 y3 y4, LeO (cohousingref30_Sure.l1 k y0 y1 y2 y3 y4) (cohousingref30_Sure.l1 (k + 1) y0 y1 y2 y3 y4))
 | 0 => ⟨fun _ _ _ r h => by simp [cohousingref30_Sure.l0] at h, fun _ _ _ _ _ r h => by simp [cohousingref30_Sure.l1] at h⟩
 | k + 1 => by
  obtain ⟨ih0, ih1⟩ := cohousingref30_Sure.mono_l k
  refine ⟨?_, ?_⟩
  ·intro y0 y1 y2
   unfold cohousingref30_Sure.l0
   repeat' first
   | (with_reducible exact ih0 _ _ _)
   | (with_reducible exact ih1 _ _ _ _ _)
   | (with_reducible exact cohousingref30_Has.mono _ _ _)
   | (with_reducible exact cohousingref30_check.mono _ _ _ _)
   | (with_reducible exact cohousingref30_smallest.mono _ _ _ _)
   | (with_reducible exact LeO.refl _)
   | (with_reducible exact LeO.none _)
   | (with_reducible refine LeO.ite ?_ ?_)
   | (with_reducible refine LeO.bind ?_ (fun _ => ?_))
   | exact ih0 _ _ _
   | exact ih1 _ _ _ _ _
   | exact cohousingref30_Has.mono _ _ _
   | exact cohousingref30_check.mono _ _ _ _
   | exact cohousingref30_smallest.mono _ _ _ _
   | exact LeO.none _
   | refine LeO.ite ?_ ?_
   | refine LeO.bind ?_ (fun _ => ?_)
  ·intro y0 y1 y2 y3 y4
   unfold cohousingref30_Sure.l1
   repeat' first
   | (with_reducible exact ih0 _ _ _)
   | (with_reducible exact ih1 _ _ _ _ _)
   | (with_reducible exact cohousingref30_Has.mono _ _ _)
   | (with_reducible exact cohousingref30_check.mono _ _ _ _)
   | (with_reducible exact cohousingref30_smallest.mono _ _ _ _)
   | (with_reducible exact LeO.refl _)
   | (with_reducible exact LeO.none _)
   | (with_reducible refine LeO.ite ?_ ?_)
   | (with_reducible refine LeO.bind ?_ (fun _ => ?_))
   | exact ih0 _ _ _
   | exact ih1 _ _ _ _ _
   | exact cohousingref30_Has.mono _ _ _
   | exact cohousingref30_check.mono _ _ _ _
   | exact cohousingref30_smallest.mono _ _ _ _
   | exact LeO.none _
   | refine LeO.ite ?_ ?_
   | refine LeO.bind ?_ (fun _ => ?_)
theorem cohousingref30_Sure.mono : ∀ a0 a1 a2 k, LeO (cohousingref30_Sure.f k a0 a1 a2) (cohousingref30_Sure.f (k + 1) a0 a1 a2) := by
 intro a0 a1 a2 k
 obtain ⟨ih0, ih1⟩ := cohousingref30_Sure.mono_l k
 unfold cohousingref30_Sure.f
 repeat' first
   | (with_reducible exact ih0 _ _ _)
   | (with_reducible exact ih1 _ _ _ _ _)
   | (with_reducible exact cohousingref30_Has.mono _ _ _)
   | (with_reducible exact cohousingref30_check.mono _ _ _ _)
   | (with_reducible exact cohousingref30_smallest.mono _ _ _ _)
   | (with_reducible exact LeO.refl _)
   | (with_reducible exact LeO.none _)
   | (with_reducible refine LeO.ite ?_ ?_)
   | (with_reducible refine LeO.bind ?_ (fun _ => ?_))
   | exact ih0 _ _ _
   | exact ih1 _ _ _ _ _
   | exact cohousingref30_Has.mono _ _ _
   | exact cohousingref30_check.mono _ _ _ _
   | exact cohousingref30_smallest.mono _ _ _ _
   | exact LeO.none _
   | refine LeO.ite ?_ ?_
   | refine LeO.bind ?_ (fun _ => ?_)
theorem cohousingref30_Sure.calls (k : Nat) (A0 : Option Addr) (c0 : Nat) (l0 : List (S44)) (A1 : Option Addr) (c1 : Nat) (l1 : List (S46)) (a2 : Int) (r1 : List Int) (r2 : Int) (w : World) (hr0 : Kd.C k44 w A0 l0.length l0) (hc0 : l0.length ≤ c0) (hr1 : Kd.C k46 w A1 l1.length l1) (hc1 : l1.length ≤ c1) (h : cohousingref30_Sure.f k l0 l1 a2 = some (r1, r2)) :
  Calls Try.prog 17 #[.slice A0 l0.length c0, .slice A1 l1.length c1, .int .i64 a2] w fun e w' => ∃ v0_ : Value, e = .returned (.tuple #[v0_, .int .i64 r2]) ∧ Kd.R (Kd.int .i64) 3 w' w.heap.size (fun _ => True) v0_ r1 ∧ Below w.heap.size w w' := by
 have HR0 := Aside0.mk hr0
 have HC0 := Aside0.mk hc0
 clear hr0 hc0
 have HR1 := Aside0.mk hr1
 have HC1 := Aside0.mk hc1
 clear hr1 hc1
 have HB := Aside0.mk (Below.refl w.heap.size w)
 have H : ((cohousingref30_check.f k l0 l1 a2).bind fun t307 => (if t307 = 0 then ((cohousingref30_smallest.f k l0 l1 a2).bind fun t308 => (if (t308.length : Int) = 0 then (some (([] : List Int), 4)) else (cohousingref30_Sure.l0 k t308 ([] : List Int) 0))) else (some (([] : List Int), t307)))) = some (r1, r2) := h
 clear h
 replace H := Option.bind_eq_some_iff.mp H
 obtain ⟨t307, A40, H⟩ := H
 replace H : (if t307 = 0 then ((cohousingref30_smallest.f k l0 l1 a2).bind fun t308 => (if (t308.length : Int) = 0 then (some (([] : List Int), 4)) else (cohousingref30_Sure.l0 k t308 ([] : List Int) 0))) else (some (([] : List Int), t307))) = some (r1, r2) := H
 have A4 := Aside0.mk A40
 clear A40
 by_cases c5 : t307 = 0
 ·rw [if_pos c5] at H
  have c5b0 : (t307 == 0) = true := beq_iff_eq.mpr c5
  have c5b1 : (t307 != 0) = false := bne_eq_false_iff_eq.mpr c5
  clear c5
  replace H := Option.bind_eq_some_iff.mp H
  obtain ⟨t308, A60, H⟩ := H
  replace H : (if (t308.length : Int) = 0 then (some (([] : List Int), 4)) else (cohousingref30_Sure.l0 k t308 ([] : List Int) 0)) = some (r1, r2) := H
  have A6 := Aside0.mk A60
  clear A60
  by_cases c7 : (t308.length : Int) = 0
  ·rw [if_pos c7] at H
   have c7b0 : ((t308.length : Int) == 0) = true := beq_iff_eq.mpr c7
   have c7b1 : ((t308.length : Int) != 0) = false := bne_eq_false_iff_eq.mpr c7
   clear c7
   simp only [Option.some.injEq, Prod.mk.injEq] at H
   obtain ⟨rfl, rfl⟩ := H
   go_enter Try.func17, Try.ntmps17
   go_wp2_with (first | (go_at_call 28; (with_reducible refine (cohousingref30_check.calls k _ _ l0 _ _ l1 a2 t307 _ ?side1 ?side2 ?side3 ?side4 A4.out).mono ?_); (case side1 => exact cc_ (HR0.out)); (case side2 => exact HC0.out); (case side3 => exact cc_ (HR1.out)); (case side4 => exact HC1.out); rintro e w8 ⟨rfl, hb⟩; have n0_ := Aside0.mk (below_step (bb_ HB) hb); clear HB; have HB := n0_; clear n0_; (try clear hb); (try clear hb2); (try clear hk); (try clear hi)) | (go_at_call 29; (with_reducible refine (cohousingref30_smallest.calls k _ _ l0 _ _ l1 a2 t308 _ ?side1 ?side2 ?side3 ?side4 A6.out).mono ?_); (case side1 => exact cc_ ((Kd.C_below HR0.out HB.out))); (case side2 => exact HC0.out); (case side3 => exact cc_ ((Kd.C_below HR1.out HB.out))); (case side4 => exact HC1.out); rintro e w9 ⟨v309, rfl, ho0, hb⟩; have n0_ := Aside0.mk (Kd.S_lower ho0 (below_size (bb_ HB))); have n1_ := Aside0.mk (below_step (bb_ HB) hb); clear HB; have HO310 := n0_; have HB := n1_; clear n0_ n1_; (try clear hb); (try clear hb2); (try clear hk); (try clear hi); (try clear ho0); obtain ⟨Ao10, co10, eo10⟩ := Kd.S_slice HO310.out; subst eo10))
   repeat (go_quiet (first | (go_at_call 28; (with_reducible refine (cohousingref30_check.calls k _ _ l0 _ _ l1 a2 t307 _ ?side1 ?side2 ?side3 ?side4 A4.out).mono ?_); (case side1 => exact cc_ (HR0.out)); (case side2 => exact HC0.out); (case side3 => exact cc_ (HR1.out)); (case side4 => exact HC1.out); rintro e w8 ⟨rfl, hb⟩; have n0_ := Aside0.mk (below_step (bb_ HB) hb); clear HB; have HB := n0_; clear n0_; (try clear hb); (try clear hb2); (try clear hk); (try clear hi)) | (go_at_call 29; (with_reducible refine (cohousingref30_smallest.calls k _ _ l0 _ _ l1 a2 t308 _ ?side1 ?side2 ?side3 ?side4 A6.out).mono ?_); (case side1 => exact cc_ ((Kd.C_below HR0.out HB.out))); (case side2 => exact HC0.out); (case side3 => exact cc_ ((Kd.C_below HR1.out HB.out))); (case side4 => exact HC1.out); rintro e w9 ⟨v309, rfl, ho0, hb⟩; have n0_ := Aside0.mk (Kd.S_lower ho0 (below_size (bb_ HB))); have n1_ := Aside0.mk (below_step (bb_ HB) hb); clear HB; have HO310 := n0_; have HB := n1_; clear n0_ n1_; (try clear hb); (try clear hb2); (try clear hk); (try clear hi); (try clear ho0); obtain ⟨Ao10, co10, eo10⟩ := Kd.S_slice HO310.out; subst eo10)); try go_wp2_with (first | (go_at_call 28; (with_reducible refine (cohousingref30_check.calls k _ _ l0 _ _ l1 a2 t307 _ ?side1 ?side2 ?side3 ?side4 A4.out).mono ?_); (case side1 => exact cc_ (HR0.out)); (case side2 => exact HC0.out); (case side3 => exact cc_ (HR1.out)); (case side4 => exact HC1.out); rintro e w8 ⟨rfl, hb⟩; have n0_ := Aside0.mk (below_step (bb_ HB) hb); clear HB; have HB := n0_; clear n0_; (try clear hb); (try clear hb2); (try clear hk); (try clear hi)) | (go_at_call 29; (with_reducible refine (cohousingref30_smallest.calls k _ _ l0 _ _ l1 a2 t308 _ ?side1 ?side2 ?side3 ?side4 A6.out).mono ?_); (case side1 => exact cc_ ((Kd.C_below HR0.out HB.out))); (case side2 => exact HC0.out); (case side3 => exact cc_ ((Kd.C_below HR1.out HB.out))); (case side4 => exact HC1.out); rintro e w9 ⟨v309, rfl, ho0, hb⟩; have n0_ := Aside0.mk (Kd.S_lower ho0 (below_size (bb_ HB))); have n1_ := Aside0.mk (below_step (bb_ HB) hb); clear HB; have HO310 := n0_; have HB := n1_; clear n0_ n1_; (try clear hb); (try clear hb2); (try clear hk); (try clear hi); (try clear ho0); obtain ⟨Ao10, co10, eo10⟩ := Kd.S_slice HO310.out; subst eo10)))
   go_ret2
   exact ⟨_, ew_, by first | exact Kd.R_nil _ _ _ _ _ | exact Kd.N_nil _ _ _ _ _ | exact Kd.V_nil _ _ _ _ _ | exact Kd.Q_nil _ _ _ _ _ | exact Kd.S_nil _ _ _ _ _, by repeat (first | (with_reducible first | exact HB.out | apply below_alloc | apply pw_below_drewN | apply below_drew1) | exact HB.out)⟩
  ·rw [if_neg c7] at H
   have c7b0 : ((t308.length : Int) == 0) = false := beq_eq_false_iff_ne.mpr c7
   have c7b1 : ((t308.length : Int) != 0) = true := bne_iff_ne.mpr c7
   have c7b2 : ¬ (t308 = []) := fun h_ => c7 (by rw [h_]; rfl)
   have H' := Aside0.mk H
   clear H
   go_enter Try.func17, Try.ntmps17
   go_wp2_with (first | (go_at_call 28; (with_reducible refine (cohousingref30_check.calls k _ _ l0 _ _ l1 a2 t307 _ ?side1 ?side2 ?side3 ?side4 A4.out).mono ?_); (case side1 => exact cc_ (HR0.out)); (case side2 => exact HC0.out); (case side3 => exact cc_ (HR1.out)); (case side4 => exact HC1.out); rintro e w11 ⟨rfl, hb⟩; have n0_ := Aside0.mk (below_step (bb_ HB) hb); clear HB; have HB := n0_; clear n0_; (try clear hb); (try clear hb2); (try clear hk); (try clear hi)) | (go_at_call 29; (with_reducible refine (cohousingref30_smallest.calls k _ _ l0 _ _ l1 a2 t308 _ ?side1 ?side2 ?side3 ?side4 A6.out).mono ?_); (case side1 => exact cc_ ((Kd.C_below HR0.out HB.out))); (case side2 => exact HC0.out); (case side3 => exact cc_ ((Kd.C_below HR1.out HB.out))); (case side4 => exact HC1.out); rintro e w12 ⟨v309, rfl, ho0, hb⟩; have n0_ := Aside0.mk (Kd.S_lower ho0 (below_size (bb_ HB))); have n1_ := Aside0.mk (below_step (bb_ HB) hb); clear HB; have HO310 := n0_; have HB := n1_; clear n0_ n1_; (try clear hb); (try clear hb2); (try clear hk); (try clear hi); (try clear ho0); obtain ⟨Ao13, co13, eo13⟩ := Kd.S_slice HO310.out; subst eo13))
   repeat (go_quiet (first | (go_at_call 28; (with_reducible refine (cohousingref30_check.calls k _ _ l0 _ _ l1 a2 t307 _ ?side1 ?side2 ?side3 ?side4 A4.out).mono ?_); (case side1 => exact cc_ (HR0.out)); (case side2 => exact HC0.out); (case side3 => exact cc_ (HR1.out)); (case side4 => exact HC1.out); rintro e w11 ⟨rfl, hb⟩; have n0_ := Aside0.mk (below_step (bb_ HB) hb); clear HB; have HB := n0_; clear n0_; (try clear hb); (try clear hb2); (try clear hk); (try clear hi)) | (go_at_call 29; (with_reducible refine (cohousingref30_smallest.calls k _ _ l0 _ _ l1 a2 t308 _ ?side1 ?side2 ?side3 ?side4 A6.out).mono ?_); (case side1 => exact cc_ ((Kd.C_below HR0.out HB.out))); (case side2 => exact HC0.out); (case side3 => exact cc_ ((Kd.C_below HR1.out HB.out))); (case side4 => exact HC1.out); rintro e w12 ⟨v309, rfl, ho0, hb⟩; have n0_ := Aside0.mk (Kd.S_lower ho0 (below_size (bb_ HB))); have n1_ := Aside0.mk (below_step (bb_ HB) hb); clear HB; have HO310 := n0_; have HB := n1_; clear n0_ n1_; (try clear hb); (try clear hb2); (try clear hk); (try clear hi); (try clear ho0); obtain ⟨Ao13, co13, eo13⟩ := Kd.S_slice HO310.out; subst eo13)); try go_wp2_with (first | (go_at_call 28; (with_reducible refine (cohousingref30_check.calls k _ _ l0 _ _ l1 a2 t307 _ ?side1 ?side2 ?side3 ?side4 A4.out).mono ?_); (case side1 => exact cc_ (HR0.out)); (case side2 => exact HC0.out); (case side3 => exact cc_ (HR1.out)); (case side4 => exact HC1.out); rintro e w11 ⟨rfl, hb⟩; have n0_ := Aside0.mk (below_step (bb_ HB) hb); clear HB; have HB := n0_; clear n0_; (try clear hb); (try clear hb2); (try clear hk); (try clear hi)) | (go_at_call 29; (with_reducible refine (cohousingref30_smallest.calls k _ _ l0 _ _ l1 a2 t308 _ ?side1 ?side2 ?side3 ?side4 A6.out).mono ?_); (case side1 => exact cc_ ((Kd.C_below HR0.out HB.out))); (case side2 => exact HC0.out); (case side3 => exact cc_ ((Kd.C_below HR1.out HB.out))); (case side4 => exact HC1.out); rintro e w12 ⟨v309, rfl, ho0, hb⟩; have n0_ := Aside0.mk (Kd.S_lower ho0 (below_size (bb_ HB))); have n1_ := Aside0.mk (below_step (bb_ HB) hb); clear HB; have HO310 := n0_; have HB := n1_; clear n0_ n1_; (try clear hb); (try clear hb2); (try clear hk); (try clear hi); (try clear ho0); obtain ⟨Ao13, co13, eo13⟩ := Kd.S_slice HO310.out; subst eo13)))
   go_loopg [10, 11] k (fun kq v10 v11 w' => ∃ (x10_1 : List Int) (x11_1 : Int), v11 = .int .i64 x11_1 ∧ Aside0 (cohousingref30_Sure.l0 kq t308 x10_1 x11_1 = some (r1, r2)) ∧ Aside0 (kq ≤ k) ∧ Aside0 (Kd.S (Kd.slice 3 (Kd.int .i64)) 26 w' w.heap.size (fun k_ => some k_ ≠ (v10 : Value).ownBlock) (.slice Ao13 t308.length co13) t308) ∧ Aside0 (Kd.R (Kd.int .i64) 3 w' w.heap.size (fun _ => True) v10 x10_1) ∧ Aside0 (Below w.heap.size w w'))
   case atStart => exact ⟨(([] : List Int)), (0), sd_, H', ⟨Nat.le_refl _⟩, ⟨by (with_reducible repeat (first | apply Kd.S_alloc | apply Kd.S_drewN | apply Kd.S_drew)); exact Kd.S_mono HO310.out (fun _ hk => (by simp [Value.ownBlock]))⟩, ⟨by first | exact Kd.R_nil _ _ _ _ _ | exact Kd.N_nil _ _ _ _ _ | exact Kd.V_nil _ _ _ _ _ | exact Kd.Q_nil _ _ _ _ _ | exact Kd.S_nil _ _ _ _ _⟩, ⟨by repeat (first | (with_reducible first | exact HB.out | apply below_alloc | apply pw_below_drewN | apply below_drew1) | exact HB.out)⟩⟩
   case round =>
    clear H'
    try clear c1
    try clear p2
    try clear c5
    try clear c5b0
    try clear c5b1
    try clear c7
    try clear c7b0
    try clear c7b1
    try clear c7b2
    obtain ⟨x10_1, x11_1, rfl, HA, HK1, HO_9, HO_10, HB⟩ := hrel
    cases gk with
    | zero => exact absurd HA.out (by simp [cohousingref30_Sure.l0])
    | succ k1 =>
     have H := HA.out
     clear HA
     simp only [cohousingref30_Sure.l0] at H
     by_cases c14 : 0 < (t308.length : Int)
     ·rw [if_pos c14] at H
      have c14b0 : decide (0 < (t308.length : Int)) = true := decide_eq_true c14
      have c14b1 : decide (0 < t308.length) = true := decide_eq_true (by omega)
      clear c14
      by_cases c15 : x11_1 < ((rd_L3 t308 0).length : Int)
      ·rw [if_pos c15] at H
       have c15b0 : decide (x11_1 < ((rd_L3 t308 0).length : Int)) = true := decide_eq_true c15
       clear c15
       have H' := Aside0.mk H
       clear H
       have p311 : 0 ≤ (0 : Int) := (by omega)
       have q311 : 0 < (t308.length : Int) := od_
       obtain ⟨ad311, A311_0, c311_0, e311, hx311_0, hl311_0, hi311_0⟩ := at_L3 (Kd.S_reads' HO_9.out).2.2 0 p311 q311
       cases e311
       obtain ⟨ce311, hce311, hMe311, hcc311⟩ := Kd.S_get HO_9.out [] 0 p311 (by first | exact q311 | exact od_ | (have e_ := (Kd.S_reads' HO_9.out).1; omega))
       obtain ⟨ve311_0, rfl, ge311_0⟩ := hMe311
       have hv311_0 := hcc311 0 _ rfl
       rw [Nat.add_zero, show ((Kd.slice 3 (Kd.int .i64))).sz = 1 from rfl, Nat.mul_one] at hv311_0
       replace hv311_0 := Option.some.inj (hv311_0.symm.trans hx311_0)
       rw [hv311_0] at ge311_0
       have HL311_0 := Aside0.mk (show Kd.R (Kd.int .i64) 3 _ _ _ _ (rd_L3 t308 0) from ge311_0)
       clear hv311_0 ge311_0
       clear hcc311 hce311
       have qi311 : (0 < t308.length) = True := eq_true (by omega)
       (try rw [show ((0 : Int)).toNat = 0 from rfl] at hx311_0)
       (try rw [Addr.add_zero'] at hx311_0)
       have HR311_0 := Aside0.mk hi311_0
       have HC311_0 := Aside0.mk hl311_0
       clear hi311_0 hl311_0
       replace p311 := eq_true p311
       replace q311 := eq_true q311
       go_wp2
       repeat (go_quiet (fail); try go_wp2)
       go_loopg [12, 13] k1 (fun kq v12 v13 w' => ∃ (x12_2 : Int) (x13_2 : Int), v12 = .int .i64 x12_2 ∧ v13 = .int .i64 x13_2 ∧ Aside0 (cohousingref30_Sure.l1 kq t308 x10_1 x11_1 x12_2 x13_2 = some (r1, r2)) ∧ Aside0 (kq ≤ k1) ∧ Aside0 (Kd.S (Kd.slice 3 (Kd.int .i64)) 26 w' w.heap.size (fun k_ => some k_ ≠ (u10 : Value).ownBlock) (.slice (some ad311) t308.length co13) t308) ∧ Aside0 (Kd.R (Kd.int .i64) 3 w' w.heap.size (fun _ => True) u10 x10_1) ∧ Aside0 (Kd.C (Kd.int .i64) w' A311_0 (rd_L3 t308 0).length (rd_L3 t308 0)) ∧ Aside0 (Below w.heap.size w w'))
       case atStart => exact ⟨(0), (0), sd_, sd_, H', ⟨Nat.le_refl _⟩, ⟨by (with_reducible repeat (first | apply Kd.S_alloc | apply Kd.S_drewN | apply Kd.S_drew)); exact HO_9.out⟩, ⟨by (with_reducible repeat (first | apply Kd.R_alloc | apply Kd.R_drewN | apply Kd.R_drew)); exact HO_10.out⟩, ⟨by repeat (first | (with_reducible exact HR311_0.out) | (with_reducible refine Kd.C_alloc ?_ _) | (with_reducible refine Kd.C_drewN ?_ _) | (with_reducible refine Kd.C_drew ?_) | exact HR311_0.out)⟩, ⟨by repeat (first | (with_reducible first | exact HB.out | apply below_alloc | apply pw_below_drewN | apply below_drew1) | exact HB.out)⟩⟩
       case round =>
        clear H'
        try clear c1
        try clear p2
        try clear c3
        try clear p3
        try clear q3
        try clear hx3
        try clear qi3
        try clear c5
        try clear c5b0
        try clear c5b1
        try clear c7
        try clear c7b0
        try clear c7b1
        try clear c7b2
        try clear c14
        try clear c14b0
        try clear c14b1
        try clear c15
        try clear c15b0
        try clear hx311_0
        try clear p2
        try clear p311
        try clear q311
        obtain ⟨x12_2, x13_2, rfl, rfl, HA, HK2, HO_9, HO_10, HR311_0, HB⟩ := hrel
        cases gk with
        | zero => exact absurd HA.out (by simp [cohousingref30_Sure.l1])
        | succ k2 =>
         have H := HA.out
         clear HA
         simp only [cohousingref30_Sure.l1] at H
         by_cases c16 : x13_2 < (t308.length : Int)
         ·rw [if_pos c16] at H
          have c16b0 : decide (x13_2 < (t308.length : Int)) = true := decide_eq_true c16
          clear c16
          by_cases c17 : 0 ≤ x13_2
          ·rw [if_pos c17] at H
           have c17b0 : decide (0 ≤ x13_2) = true := decide_eq_true c17
           clear c17
           by_cases c18 : 0 < (t308.length : Int)
           ·rw [if_pos c18] at H
            have c18b0 : decide (0 < (t308.length : Int)) = true := decide_eq_true c18
            have c18b1 : decide (0 < t308.length) = true := decide_eq_true (by omega)
            clear c18
            by_cases c19 : 0 ≤ x11_1
            ·rw [if_pos c19] at H
             have c19b0 : decide (0 ≤ x11_1) = true := decide_eq_true c19
             clear c19
             by_cases c20 : x11_1 < ((rd_L3 t308 0).length : Int)
             ·rw [if_pos c20] at H
              have c20b0 : decide (x11_1 < ((rd_L3 t308 0).length : Int)) = true := decide_eq_true c20
              clear c20
              replace H := Option.bind_eq_some_iff.mp H
              obtain ⟨t315, A210, H⟩ := H
              replace H : (if t315 = true then (cohousingref30_Sure.l1 k2 t308 x10_1 x11_1 (wrap64 (x12_2 + 1)) (wrap64 (x13_2 + 1))) else (cohousingref30_Sure.l1 k2 t308 x10_1 x11_1 x12_2 (wrap64 (x13_2 + 1)))) = some (r1, r2) := H
              have A21 := Aside0.mk A210
              clear A210
              by_cases c22 : t315 = true
              ·subst c22
               have H1 : (cohousingref30_Sure.l1 k2 t308 x10_1 x11_1 (wrap64 (x12_2 + 1)) (wrap64 (x13_2 + 1))) = some (r1, r2) := by rw [if_pos rfl] at H; exact H
               clear H
               have H := H1
               clear H1
               have H' := Aside0.mk H
               clear H
               have p312 : 0 ≤ (x13_2 : Int) := od_
               have q312 : x13_2 < (t308.length : Int) := od_
               obtain ⟨ad312, A312_0, c312_0, e312, hx312_0, hl312_0, hi312_0⟩ := at_L3 (Kd.S_reads' HO_9.out).2.2 x13_2 p312 q312
               obtain rfl : ad311 = ad312 := (by injection e312)
               obtain ⟨ce312, hce312, hMe312, hcc312⟩ := Kd.S_get HO_9.out [] x13_2 p312 (by first | exact q312 | exact od_ | (have e_ := (Kd.S_reads' HO_9.out).1; omega))
               obtain ⟨ve312_0, rfl, ge312_0⟩ := hMe312
               have hv312_0 := hcc312 0 _ rfl
               rw [Nat.add_zero, show ((Kd.slice 3 (Kd.int .i64))).sz = 1 from rfl, Nat.mul_one] at hv312_0
               replace hv312_0 := Option.some.inj (hv312_0.symm.trans hx312_0)
               rw [hv312_0] at ge312_0
               have HL312_0 := Aside0.mk (show Kd.R (Kd.int .i64) 3 _ _ _ _ (rd_L3 t308 x13_2) from ge312_0)
               clear hv312_0 ge312_0
               clear hcc312 hce312
               have HR312_0 := Aside0.mk hi312_0
               have HC312_0 := Aside0.mk hl312_0
               clear hi312_0 hl312_0
               replace p312 := eq_true p312
               replace q312 := eq_true q312
               have p313 : 0 ≤ (0 : Int) := (by omega)
               have q313 : 0 < (t308.length : Int) := od_
               obtain ⟨ad313, A313_0, c313_0, e313, hx313_0, hl313_0, hi313_0⟩ := at_L3 (Kd.S_reads' HO_9.out).2.2 0 p313 q313
               obtain rfl : ad311 = ad313 := (by injection e313)
               obtain ⟨ce313, hce313, hMe313, hcc313⟩ := Kd.S_get HO_9.out [] 0 p313 (by first | exact q313 | exact od_ | (have e_ := (Kd.S_reads' HO_9.out).1; omega))
               obtain ⟨ve313_0, rfl, ge313_0⟩ := hMe313
               have hv313_0 := hcc313 0 _ rfl
               rw [Nat.add_zero, show ((Kd.slice 3 (Kd.int .i64))).sz = 1 from rfl, Nat.mul_one] at hv313_0
               replace hv313_0 := Option.some.inj (hv313_0.symm.trans hx313_0)
               rw [hv313_0] at ge313_0
               have HL313_0 := Aside0.mk (show Kd.R (Kd.int .i64) 3 _ _ _ _ (rd_L3 t308 0) from ge313_0)
               clear hv313_0 ge313_0
               clear hcc313 hce313
               have qi313 : (0 < t308.length) = True := eq_true (by omega)
               (try rw [show ((0 : Int)).toNat = 0 from rfl] at hx313_0)
               (try rw [Addr.add_zero'] at hx313_0)
               have HR313_0 := Aside0.mk hi313_0
               have HC313_0 := Aside0.mk hl313_0
               clear hi313_0 hl313_0
               replace p313 := eq_true p313
               replace q313 := eq_true q313
               have p314 : 0 ≤ (x11_1 : Int) := od_
               have q314 : x11_1 < ((rd_L3 t308 0).length : Int) := od_
               obtain ⟨ad314, e314, hx314_0⟩ := Kd.at_int (by repeat (first | (with_reducible exact HR313_0.out) | (with_reducible refine Kd.C_alloc ?_ _) | (with_reducible refine Kd.C_drewN ?_ _) | (with_reducible refine Kd.C_drew ?_) | exact HR313_0.out)) x11_1 p314 q314
               cases e314
               replace p314 := eq_true p314
               replace q314 := eq_true q314
               go_wp2_with (first | (go_at_call 21; (with_reducible refine (cohousingref30_Has.calls k2 _ _ (rd_L3 t308 x13_2) (rd (rd_L3 t308 0) x11_1) true _ ?side1 ?side2 A21.out).mono ?_); (case side1 => repeat (first | exact (by repeat (first | (with_reducible exact HR312_0.out) | (with_reducible refine Kd.C_alloc ?_ _) | (with_reducible refine Kd.C_drewN ?_ _) | (with_reducible refine Kd.C_drew ?_) | exact HR312_0.out)) | (with_reducible refine Kd.C_alloc ?_ _) | (with_reducible refine Kd.C_drewN ?_ _) | (with_reducible refine Kd.C_drew ?_))); (case side2 => exact HC312_0.out); rintro e w' ⟨rfl, ⟨nd, rfl⟩⟩; (try first | exact ⟨rfl, _, World.drewN_drewN _ _ _⟩ | exact ⟨rfl, _, Eq.trans (World.drewN_drewN _ _ _) (congrArg (World.drewN _) (Nat.add_assoc _ _ _))⟩)))
               repeat (go_quiet (first | (go_at_call 21; (with_reducible refine (cohousingref30_Has.calls k2 _ _ (rd_L3 t308 x13_2) (rd (rd_L3 t308 0) x11_1) true _ ?side1 ?side2 A21.out).mono ?_); (case side1 => repeat (first | exact (by repeat (first | (with_reducible exact HR312_0.out) | (with_reducible refine Kd.C_alloc ?_ _) | (with_reducible refine Kd.C_drewN ?_ _) | (with_reducible refine Kd.C_drew ?_) | exact HR312_0.out)) | (with_reducible refine Kd.C_alloc ?_ _) | (with_reducible refine Kd.C_drewN ?_ _) | (with_reducible refine Kd.C_drew ?_))); (case side2 => exact HC312_0.out); rintro e w' ⟨rfl, ⟨nd, rfl⟩⟩; (try first | exact ⟨rfl, _, World.drewN_drewN _ _ _⟩ | exact ⟨rfl, _, Eq.trans (World.drewN_drewN _ _ _) (congrArg (World.drewN _) (Nat.add_assoc _ _ _))⟩))); try go_wp2_with (first | (go_at_call 21; (with_reducible refine (cohousingref30_Has.calls k2 _ _ (rd_L3 t308 x13_2) (rd (rd_L3 t308 0) x11_1) true _ ?side1 ?side2 A21.out).mono ?_); (case side1 => repeat (first | exact (by repeat (first | (with_reducible exact HR312_0.out) | (with_reducible refine Kd.C_alloc ?_ _) | (with_reducible refine Kd.C_drewN ?_ _) | (with_reducible refine Kd.C_drew ?_) | exact HR312_0.out)) | (with_reducible refine Kd.C_alloc ?_ _) | (with_reducible refine Kd.C_drewN ?_ _) | (with_reducible refine Kd.C_drew ?_))); (case side2 => exact HC312_0.out); rintro e w' ⟨rfl, ⟨nd, rfl⟩⟩; (try first | exact ⟨rfl, _, World.drewN_drewN _ _ _⟩ | exact ⟨rfl, _, Eq.trans (World.drewN_drewN _ _ _) (congrArg (World.drewN _) (Nat.add_assoc _ _ _))⟩))))
               go_roundg k2
               case measure => have := HK1.out; have := HK2.out; omega
               case rel => exact ⟨(wrap64 (x12_2 + 1)), (wrap64 (x13_2 + 1)), sd_, sd_, H', ⟨by have := HK1.out; have := HK2.out; omega⟩, ⟨by (with_reducible repeat (first | apply Kd.S_alloc | apply Kd.S_drewN | apply Kd.S_drew)); exact HO_9.out⟩, ⟨by (with_reducible repeat (first | apply Kd.R_alloc | apply Kd.R_drewN | apply Kd.R_drew)); exact HO_10.out⟩, ⟨by repeat (first | (with_reducible exact HR311_0.out) | (with_reducible refine Kd.C_alloc ?_ _) | (with_reducible refine Kd.C_drewN ?_ _) | (with_reducible refine Kd.C_drew ?_) | exact HR311_0.out)⟩, ⟨by repeat (first | (with_reducible first | exact HB.out | apply below_alloc | apply pw_below_drewN | apply below_drew1) | exact HB.out)⟩⟩
              ·replace c22 := Bool.eq_false_iff.mpr c22
               subst c22
               have H1 : (cohousingref30_Sure.l1 k2 t308 x10_1 x11_1 x12_2 (wrap64 (x13_2 + 1))) = some (r1, r2) := by rw [if_neg (show ¬ (false = true) by decide)] at H; exact H
               clear H
               have H := H1
               clear H1
               have H' := Aside0.mk H
               clear H
               have p312 : 0 ≤ (x13_2 : Int) := od_
               have q312 : x13_2 < (t308.length : Int) := od_
               obtain ⟨ad312, A312_0, c312_0, e312, hx312_0, hl312_0, hi312_0⟩ := at_L3 (Kd.S_reads' HO_9.out).2.2 x13_2 p312 q312
               obtain rfl : ad311 = ad312 := (by injection e312)
               obtain ⟨ce312, hce312, hMe312, hcc312⟩ := Kd.S_get HO_9.out [] x13_2 p312 (by first | exact q312 | exact od_ | (have e_ := (Kd.S_reads' HO_9.out).1; omega))
               obtain ⟨ve312_0, rfl, ge312_0⟩ := hMe312
               have hv312_0 := hcc312 0 _ rfl
               rw [Nat.add_zero, show ((Kd.slice 3 (Kd.int .i64))).sz = 1 from rfl, Nat.mul_one] at hv312_0
               replace hv312_0 := Option.some.inj (hv312_0.symm.trans hx312_0)
               rw [hv312_0] at ge312_0
               have HL312_0 := Aside0.mk (show Kd.R (Kd.int .i64) 3 _ _ _ _ (rd_L3 t308 x13_2) from ge312_0)
               clear hv312_0 ge312_0
               clear hcc312 hce312
               have HR312_0 := Aside0.mk hi312_0
               have HC312_0 := Aside0.mk hl312_0
               clear hi312_0 hl312_0
               replace p312 := eq_true p312
               replace q312 := eq_true q312
               have p313 : 0 ≤ (0 : Int) := (by omega)
               have q313 : 0 < (t308.length : Int) := od_
               obtain ⟨ad313, A313_0, c313_0, e313, hx313_0, hl313_0, hi313_0⟩ := at_L3 (Kd.S_reads' HO_9.out).2.2 0 p313 q313
               obtain rfl : ad311 = ad313 := (by injection e313)
               obtain ⟨ce313, hce313, hMe313, hcc313⟩ := Kd.S_get HO_9.out [] 0 p313 (by first | exact q313 | exact od_ | (have e_ := (Kd.S_reads' HO_9.out).1; omega))
               obtain ⟨ve313_0, rfl, ge313_0⟩ := hMe313
               have hv313_0 := hcc313 0 _ rfl
               rw [Nat.add_zero, show ((Kd.slice 3 (Kd.int .i64))).sz = 1 from rfl, Nat.mul_one] at hv313_0
               replace hv313_0 := Option.some.inj (hv313_0.symm.trans hx313_0)
               rw [hv313_0] at ge313_0
               have HL313_0 := Aside0.mk (show Kd.R (Kd.int .i64) 3 _ _ _ _ (rd_L3 t308 0) from ge313_0)
               clear hv313_0 ge313_0
               clear hcc313 hce313
               have qi313 : (0 < t308.length) = True := eq_true (by omega)
               (try rw [show ((0 : Int)).toNat = 0 from rfl] at hx313_0)
               (try rw [Addr.add_zero'] at hx313_0)
               have HR313_0 := Aside0.mk hi313_0
               have HC313_0 := Aside0.mk hl313_0
               clear hi313_0 hl313_0
               replace p313 := eq_true p313
               replace q313 := eq_true q313
               have p314 : 0 ≤ (x11_1 : Int) := od_
               have q314 : x11_1 < ((rd_L3 t308 0).length : Int) := od_
               obtain ⟨ad314, e314, hx314_0⟩ := Kd.at_int (by repeat (first | (with_reducible exact HR313_0.out) | (with_reducible refine Kd.C_alloc ?_ _) | (with_reducible refine Kd.C_drewN ?_ _) | (with_reducible refine Kd.C_drew ?_) | exact HR313_0.out)) x11_1 p314 q314
               cases e314
               replace p314 := eq_true p314
               replace q314 := eq_true q314
               go_wp2_with (first | (go_at_call 21; (with_reducible refine (cohousingref30_Has.calls k2 _ _ (rd_L3 t308 x13_2) (rd (rd_L3 t308 0) x11_1) false _ ?side1 ?side2 A21.out).mono ?_); (case side1 => repeat (first | exact (by repeat (first | (with_reducible exact HR312_0.out) | (with_reducible refine Kd.C_alloc ?_ _) | (with_reducible refine Kd.C_drewN ?_ _) | (with_reducible refine Kd.C_drew ?_) | exact HR312_0.out)) | (with_reducible refine Kd.C_alloc ?_ _) | (with_reducible refine Kd.C_drewN ?_ _) | (with_reducible refine Kd.C_drew ?_))); (case side2 => exact HC312_0.out); rintro e w' ⟨rfl, ⟨nd, rfl⟩⟩; (try first | exact ⟨rfl, _, World.drewN_drewN _ _ _⟩ | exact ⟨rfl, _, Eq.trans (World.drewN_drewN _ _ _) (congrArg (World.drewN _) (Nat.add_assoc _ _ _))⟩)))
               repeat (go_quiet (first | (go_at_call 21; (with_reducible refine (cohousingref30_Has.calls k2 _ _ (rd_L3 t308 x13_2) (rd (rd_L3 t308 0) x11_1) false _ ?side1 ?side2 A21.out).mono ?_); (case side1 => repeat (first | exact (by repeat (first | (with_reducible exact HR312_0.out) | (with_reducible refine Kd.C_alloc ?_ _) | (with_reducible refine Kd.C_drewN ?_ _) | (with_reducible refine Kd.C_drew ?_) | exact HR312_0.out)) | (with_reducible refine Kd.C_alloc ?_ _) | (with_reducible refine Kd.C_drewN ?_ _) | (with_reducible refine Kd.C_drew ?_))); (case side2 => exact HC312_0.out); rintro e w' ⟨rfl, ⟨nd, rfl⟩⟩; (try first | exact ⟨rfl, _, World.drewN_drewN _ _ _⟩ | exact ⟨rfl, _, Eq.trans (World.drewN_drewN _ _ _) (congrArg (World.drewN _) (Nat.add_assoc _ _ _))⟩))); try go_wp2_with (first | (go_at_call 21; (with_reducible refine (cohousingref30_Has.calls k2 _ _ (rd_L3 t308 x13_2) (rd (rd_L3 t308 0) x11_1) false _ ?side1 ?side2 A21.out).mono ?_); (case side1 => repeat (first | exact (by repeat (first | (with_reducible exact HR312_0.out) | (with_reducible refine Kd.C_alloc ?_ _) | (with_reducible refine Kd.C_drewN ?_ _) | (with_reducible refine Kd.C_drew ?_) | exact HR312_0.out)) | (with_reducible refine Kd.C_alloc ?_ _) | (with_reducible refine Kd.C_drewN ?_ _) | (with_reducible refine Kd.C_drew ?_))); (case side2 => exact HC312_0.out); rintro e w' ⟨rfl, ⟨nd, rfl⟩⟩; (try first | exact ⟨rfl, _, World.drewN_drewN _ _ _⟩ | exact ⟨rfl, _, Eq.trans (World.drewN_drewN _ _ _) (congrArg (World.drewN _) (Nat.add_assoc _ _ _))⟩))))
               go_roundg k2
               case measure => have := HK1.out; have := HK2.out; omega
               case rel => exact ⟨(x12_2), (wrap64 (x13_2 + 1)), sd_, sd_, H', ⟨by have := HK1.out; have := HK2.out; omega⟩, ⟨by (with_reducible repeat (first | apply Kd.S_alloc | apply Kd.S_drewN | apply Kd.S_drew)); exact HO_9.out⟩, ⟨by (with_reducible repeat (first | apply Kd.R_alloc | apply Kd.R_drewN | apply Kd.R_drew)); exact HO_10.out⟩, ⟨by repeat (first | (with_reducible exact HR311_0.out) | (with_reducible refine Kd.C_alloc ?_ _) | (with_reducible refine Kd.C_drewN ?_ _) | (with_reducible refine Kd.C_drew ?_) | exact HR311_0.out)⟩, ⟨by repeat (first | (with_reducible first | exact HB.out | apply below_alloc | apply pw_below_drewN | apply below_drew1) | exact HB.out)⟩⟩
             ·rw [if_neg c20] at H
              exact absurd H (by simp)
            ·rw [if_neg c19] at H
             exact absurd H (by simp)
           ·rw [if_neg c18] at H
            exact absurd H (by simp)
          ·rw [if_neg c17] at H
           exact absurd H (by simp)
         ·rw [if_neg c16] at H
          have c16b0 : decide (x13_2 < (t308.length : Int)) = false := decide_eq_false c16
          clear c16
          by_cases c23 : x12_2 = (t308.length : Int)
          ·rw [if_pos c23] at H
           have c23b0 : (x12_2 == (t308.length : Int)) = true := beq_iff_eq.mpr c23
           have c23b1 : (x12_2 != (t308.length : Int)) = false := bne_eq_false_iff_eq.mpr c23
           clear c23
           by_cases c24 : 0 < (t308.length : Int)
           ·rw [if_pos c24] at H
            have c24b0 : decide (0 < (t308.length : Int)) = true := decide_eq_true c24
            have c24b1 : decide (0 < t308.length) = true := decide_eq_true (by omega)
            clear c24
            by_cases c25 : 0 ≤ x11_1
            ·rw [if_pos c25] at H
             have c25b0 : decide (0 ≤ x11_1) = true := decide_eq_true c25
             clear c25
             by_cases c26 : x11_1 < ((rd_L3 t308 0).length : Int)
             ·rw [if_pos c26] at H
              have c26b0 : decide (x11_1 < ((rd_L3 t308 0).length : Int)) = true := decide_eq_true c26
              clear c26
              by_cases c27 : x10_1.length < 17592186044416
              ·rw [if_pos c27] at H
               have LMc27 := Aside0.mk c27
               clear c27
               obtain ⟨y318, hy318⟩ : ∃ y_ : List Int, y_ = (x10_1 ++ [rd (rd_L3 t308 0) x11_1]) := ⟨_, rfl⟩
               replace H : (cohousingref30_Sure.l0 k2 t308 y318 (wrap64 (x11_1 + 1))) = some (r1, r2) := by first | (rw [hy318]; with_reducible exact H) | (have H2_ := (Option.bind_some _ _).symm.trans H; rw [hy318]; with_reducible exact H2_) | (have H2_ := (Option.bind_some _ _).symm.trans H; with_reducible exact H2_) | with_reducible exact H | (rw [hy318]; exact H) | exact H
               have Ny318 := Aside0.mk hy318
               clear hy318
               have H' := Aside0.mk H
               clear H
               have p316 : 0 ≤ (0 : Int) := (by omega)
               have q316 : 0 < (t308.length : Int) := od_
               obtain ⟨ad316, A316_0, c316_0, e316, hx316_0, hl316_0, hi316_0⟩ := at_L3 (Kd.S_reads' HO_9.out).2.2 0 p316 q316
               obtain rfl : ad311 = ad316 := (by injection e316)
               obtain ⟨ce316, hce316, hMe316, hcc316⟩ := Kd.S_get HO_9.out [] 0 p316 (by first | exact q316 | exact od_ | (have e_ := (Kd.S_reads' HO_9.out).1; omega))
               obtain ⟨ve316_0, rfl, ge316_0⟩ := hMe316
               have hv316_0 := hcc316 0 _ rfl
               rw [Nat.add_zero, show ((Kd.slice 3 (Kd.int .i64))).sz = 1 from rfl, Nat.mul_one] at hv316_0
               replace hv316_0 := Option.some.inj (hv316_0.symm.trans hx316_0)
               rw [hv316_0] at ge316_0
               have HL316_0 := Aside0.mk (show Kd.R (Kd.int .i64) 3 _ _ _ _ (rd_L3 t308 0) from ge316_0)
               clear hv316_0 ge316_0
               clear hcc316 hce316
               have qi316 : (0 < t308.length) = True := eq_true (by omega)
               (try rw [show ((0 : Int)).toNat = 0 from rfl] at hx316_0)
               (try rw [Addr.add_zero'] at hx316_0)
               have HR316_0 := Aside0.mk hi316_0
               have HC316_0 := Aside0.mk hl316_0
               clear hi316_0 hl316_0
               replace p316 := eq_true p316
               replace q316 := eq_true q316
               have p317 : 0 ≤ (x11_1 : Int) := od_
               have q317 : x11_1 < ((rd_L3 t308 0).length : Int) := od_
               obtain ⟨ad317, e317, hx317_0⟩ := Kd.at_int (by repeat (first | (with_reducible exact HR316_0.out) | (with_reducible refine Kd.C_alloc ?_ _) | (with_reducible refine Kd.C_drewN ?_ _) | (with_reducible refine Kd.C_drew ?_) | exact HR316_0.out)) x11_1 p317 q317
               cases e317
               replace p317 := eq_true p317
               replace q317 := eq_true q317
               go_wp2_with (first | ((with_reducible refine gate_builtin (b := .append) (xs := #[.tmp 59, .tmp 66]) rfl ?_); at_builtin; refine Kd.R_append (Kd.int .i64) (w0 := w) w.heap.size rfl (.tmp 59) (.tmp 66) 26 3 (.int .i64 0) 8 rfl Try.underlying26 info3 rfl (by decide) (by omega) u10 x10_1 (rd (rd_L3 t308 0) x11_1) [.int .i64 (rd (rd_L3 t308 0) x11_1)] (fun _ => True) (fun _ => False) rfl rfl ?aP (fun _ hk => hk.elim) ?aF ?aO ?aB ?aS ?aL ?_; (case aP => exact rfl); (case aB => exact (bb_ HB)); (case aF => exact (fun _ _ => trivial)); (case aO => exact (rr_ HO_10)); (case aS => exact (below_size (bb_ HB))); (case aL => have := LMc27.out; omega); intro v319 w28 ho hb hg hat; rw [← Ny318.out] at ho; have n0_ := Aside0.mk (Kd.S_after (ok := (fun _ => True)) (by (with_reducible repeat (first | apply Kd.S_alloc | apply Kd.S_drewN | apply Kd.S_drew)); exact Kd.S_mono HO_9.out (fun _ hk => ⟨trivial, hk⟩)) hg hat); have n1_ := Aside0.mk (Kd.R_after (ok := (fun k_ => some k_ ≠ (.slice (some ad311) t308.length co13 : Value).ownBlock)) (by (with_reducible repeat (first | apply Kd.R_alloc | apply Kd.R_drewN | apply Kd.R_drew)); exact Kd.R_mono HL316_0.out (fun _ hk => ⟨hk.2, hk.1⟩)) hg hat); have n2_ := Aside0.mk (hb); have n3_ := Aside0.mk (ho); clear HO_9; clear HL316_0; clear HB; clear HO_10; have HO_9 := n0_; have HL316_0 := n1_; have HB := n2_; have HO320 := n3_; clear n0_ n1_ n2_ n3_; clear ho hb hg hat))
               repeat (go_quiet (first | ((with_reducible refine gate_builtin (b := .append) (xs := #[.tmp 59, .tmp 66]) rfl ?_); at_builtin; refine Kd.R_append (Kd.int .i64) (w0 := w) w.heap.size rfl (.tmp 59) (.tmp 66) 26 3 (.int .i64 0) 8 rfl Try.underlying26 info3 rfl (by decide) (by omega) u10 x10_1 (rd (rd_L3 t308 0) x11_1) [.int .i64 (rd (rd_L3 t308 0) x11_1)] (fun _ => True) (fun _ => False) rfl rfl ?aP (fun _ hk => hk.elim) ?aF ?aO ?aB ?aS ?aL ?_; (case aP => exact rfl); (case aB => exact (bb_ HB)); (case aF => exact (fun _ _ => trivial)); (case aO => exact (rr_ HO_10)); (case aS => exact (below_size (bb_ HB))); (case aL => have := LMc27.out; omega); intro v319 w28 ho hb hg hat; rw [← Ny318.out] at ho; have n0_ := Aside0.mk (Kd.S_after (ok := (fun _ => True)) (by (with_reducible repeat (first | apply Kd.S_alloc | apply Kd.S_drewN | apply Kd.S_drew)); exact Kd.S_mono HO_9.out (fun _ hk => ⟨trivial, hk⟩)) hg hat); have n1_ := Aside0.mk (Kd.R_after (ok := (fun k_ => some k_ ≠ (.slice (some ad311) t308.length co13 : Value).ownBlock)) (by (with_reducible repeat (first | apply Kd.R_alloc | apply Kd.R_drewN | apply Kd.R_drew)); exact Kd.R_mono HL316_0.out (fun _ hk => ⟨hk.2, hk.1⟩)) hg hat); have n2_ := Aside0.mk (hb); have n3_ := Aside0.mk (ho); clear HO_9; clear HL316_0; clear HB; clear HO_10; have HO_9 := n0_; have HL316_0 := n1_; have HB := n2_; have HO320 := n3_; clear n0_ n1_ n2_ n3_; clear ho hb hg hat)); try go_wp2_with (first | ((with_reducible refine gate_builtin (b := .append) (xs := #[.tmp 59, .tmp 66]) rfl ?_); at_builtin; refine Kd.R_append (Kd.int .i64) (w0 := w) w.heap.size rfl (.tmp 59) (.tmp 66) 26 3 (.int .i64 0) 8 rfl Try.underlying26 info3 rfl (by decide) (by omega) u10 x10_1 (rd (rd_L3 t308 0) x11_1) [.int .i64 (rd (rd_L3 t308 0) x11_1)] (fun _ => True) (fun _ => False) rfl rfl ?aP (fun _ hk => hk.elim) ?aF ?aO ?aB ?aS ?aL ?_; (case aP => exact rfl); (case aB => exact (bb_ HB)); (case aF => exact (fun _ _ => trivial)); (case aO => exact (rr_ HO_10)); (case aS => exact (below_size (bb_ HB))); (case aL => have := LMc27.out; omega); intro v319 w28 ho hb hg hat; rw [← Ny318.out] at ho; have n0_ := Aside0.mk (Kd.S_after (ok := (fun _ => True)) (by (with_reducible repeat (first | apply Kd.S_alloc | apply Kd.S_drewN | apply Kd.S_drew)); exact Kd.S_mono HO_9.out (fun _ hk => ⟨trivial, hk⟩)) hg hat); have n1_ := Aside0.mk (Kd.R_after (ok := (fun k_ => some k_ ≠ (.slice (some ad311) t308.length co13 : Value).ownBlock)) (by (with_reducible repeat (first | apply Kd.R_alloc | apply Kd.R_drewN | apply Kd.R_drew)); exact Kd.R_mono HL316_0.out (fun _ hk => ⟨hk.2, hk.1⟩)) hg hat); have n2_ := Aside0.mk (hb); have n3_ := Aside0.mk (ho); clear HO_9; clear HL316_0; clear HB; clear HO_10; have HO_9 := n0_; have HL316_0 := n1_; have HB := n2_; have HO320 := n3_; clear n0_ n1_ n2_ n3_; clear ho hb hg hat)))
               go_roundg k2
               case measure => have := HK1.out; have := HK2.out; omega
               case rel => exact ⟨(y318), (wrap64 (x11_1 + 1)), sd_, H', ⟨by have := HK1.out; have := HK2.out; omega⟩, ⟨by (with_reducible repeat (first | apply Kd.S_alloc | apply Kd.S_drewN | apply Kd.S_drew)); exact Kd.S_mono HO_9.out (fun _ hk => hk.2)⟩, ⟨by (with_reducible repeat (first | apply Kd.R_alloc | apply Kd.R_drewN | apply Kd.R_drew)); exact HO320.out⟩, ⟨by repeat (first | (with_reducible first | exact HB.out | apply below_alloc | apply pw_below_drewN | apply below_drew1) | exact HB.out)⟩⟩
              ·rw [if_neg c27] at H
               exact absurd H (by simp)
             ·rw [if_neg c26] at H
              exact absurd H (by simp)
            ·rw [if_neg c25] at H
             exact absurd H (by simp)
           ·rw [if_neg c24] at H
            exact absurd H (by simp)
          ·rw [if_neg c23] at H
           have c23b0 : (x12_2 == (t308.length : Int)) = false := beq_eq_false_iff_ne.mpr c23
           have c23b1 : (x12_2 != (t308.length : Int)) = true := bne_iff_ne.mpr c23
           have H' := Aside0.mk H
           clear H
           go_wp2
           repeat (go_quiet (fail); try go_wp2)
           go_roundg k2
           case measure => have := HK1.out; have := HK2.out; omega
           case rel => exact ⟨(x10_1), (wrap64 (x11_1 + 1)), sd_, H', ⟨by have := HK1.out; have := HK2.out; omega⟩, ⟨by (with_reducible repeat (first | apply Kd.S_alloc | apply Kd.S_drewN | apply Kd.S_drew)); exact HO_9.out⟩, ⟨by (with_reducible repeat (first | apply Kd.R_alloc | apply Kd.R_drewN | apply Kd.R_drew)); exact HO_10.out⟩, ⟨by repeat (first | (with_reducible first | exact HB.out | apply below_alloc | apply pw_below_drewN | apply below_drew1) | exact HB.out)⟩⟩
      ·rw [if_neg c15] at H
       have c15b0 : decide (x11_1 < ((rd_L3 t308 0).length : Int)) = false := decide_eq_false c15
       clear c15
       simp only [Option.some.injEq, Prod.mk.injEq] at H
       obtain ⟨rfl, rfl⟩ := H
       have p311 : 0 ≤ (0 : Int) := (by omega)
       have q311 : 0 < (t308.length : Int) := od_
       obtain ⟨ad311, A311_0, c311_0, e311, hx311_0, hl311_0, hi311_0⟩ := at_L3 (Kd.S_reads' HO_9.out).2.2 0 p311 q311
       cases e311
       obtain ⟨ce311, hce311, hMe311, hcc311⟩ := Kd.S_get HO_9.out [] 0 p311 (by first | exact q311 | exact od_ | (have e_ := (Kd.S_reads' HO_9.out).1; omega))
       obtain ⟨ve311_0, rfl, ge311_0⟩ := hMe311
       have hv311_0 := hcc311 0 _ rfl
       rw [Nat.add_zero, show ((Kd.slice 3 (Kd.int .i64))).sz = 1 from rfl, Nat.mul_one] at hv311_0
       replace hv311_0 := Option.some.inj (hv311_0.symm.trans hx311_0)
       rw [hv311_0] at ge311_0
       have HL311_0 := Aside0.mk (show Kd.R (Kd.int .i64) 3 _ _ _ _ (rd_L3 t308 0) from ge311_0)
       clear hv311_0 ge311_0
       clear hcc311 hce311
       have qi311 : (0 < t308.length) = True := eq_true (by omega)
       (try rw [show ((0 : Int)).toNat = 0 from rfl] at hx311_0)
       (try rw [Addr.add_zero'] at hx311_0)
       have HR311_0 := Aside0.mk hi311_0
       have HC311_0 := Aside0.mk hl311_0
       clear hi311_0 hl311_0
       replace p311 := eq_true p311
       replace q311 := eq_true q311
       go_wp2
       repeat (go_quiet (fail); try go_wp2)
       go_ret2
       exact ⟨_, ew_, by (with_reducible repeat (first | apply Kd.R_alloc | apply Kd.R_drewN | apply Kd.R_drew)); exact HO_10.out, by repeat (first | (with_reducible first | exact HB.out | apply below_alloc | apply pw_below_drewN | apply below_drew1) | exact HB.out)⟩
     ·rw [if_neg c14] at H
      exact absurd H (by simp)
 ·rw [if_neg c5] at H
  have c5b0 : (t307 == 0) = false := beq_eq_false_iff_ne.mpr c5
  have c5b1 : (t307 != 0) = true := bne_iff_ne.mpr c5
  simp only [Option.some.injEq, Prod.mk.injEq] at H
  obtain ⟨rfl, rfl⟩ := H
  go_enter Try.func17, Try.ntmps17
  go_wp2_with (first | (go_at_call 28; (with_reducible refine (cohousingref30_check.calls k _ _ l0 _ _ l1 a2 t307 _ ?side1 ?side2 ?side3 ?side4 A4.out).mono ?_); (case side1 => exact cc_ (HR0.out)); (case side2 => exact HC0.out); (case side3 => exact cc_ (HR1.out)); (case side4 => exact HC1.out); rintro e w29 ⟨rfl, hb⟩; have n0_ := Aside0.mk (below_step (bb_ HB) hb); clear HB; have HB := n0_; clear n0_; (try clear hb); (try clear hb2); (try clear hk); (try clear hi)))
  repeat (go_quiet (first | (go_at_call 28; (with_reducible refine (cohousingref30_check.calls k _ _ l0 _ _ l1 a2 t307 _ ?side1 ?side2 ?side3 ?side4 A4.out).mono ?_); (case side1 => exact cc_ (HR0.out)); (case side2 => exact HC0.out); (case side3 => exact cc_ (HR1.out)); (case side4 => exact HC1.out); rintro e w29 ⟨rfl, hb⟩; have n0_ := Aside0.mk (below_step (bb_ HB) hb); clear HB; have HB := n0_; clear n0_; (try clear hb); (try clear hb2); (try clear hk); (try clear hi))); try go_wp2_with (first | (go_at_call 28; (with_reducible refine (cohousingref30_check.calls k _ _ l0 _ _ l1 a2 t307 _ ?side1 ?side2 ?side3 ?side4 A4.out).mono ?_); (case side1 => exact cc_ (HR0.out)); (case side2 => exact HC0.out); (case side3 => exact cc_ (HR1.out)); (case side4 => exact HC1.out); rintro e w29 ⟨rfl, hb⟩; have n0_ := Aside0.mk (below_step (bb_ HB) hb); clear HB; have HB := n0_; clear n0_; (try clear hb); (try clear hb2); (try clear hk); (try clear hi))))
  go_ret2
  exact ⟨_, ew_, by first | exact Kd.R_nil _ _ _ _ _ | exact Kd.N_nil _ _ _ _ _ | exact Kd.V_nil _ _ _ _ _ | exact Kd.Q_nil _ _ _ _ _ | exact Kd.S_nil _ _ _ _ _, by repeat (first | (with_reducible first | exact HB.out | apply below_alloc | apply pw_below_drewN | apply below_drew1) | exact HB.out)⟩
end
end Go.Proofs.Ytolmjhpapidmhaa.P
end
section
namespace Go.Proofs.FlowTree
def sm (f : Nat → Int) (ks : List Nat) : Int := (ks.map f).foldl (· + ·) 0
theorem foldl_add (l : List Int) : ∀ a : Int, l.foldl (· + ·) a = a + l.foldl (· + ·) 0 := by
 induction l with
 | nil => intro a; simp
 | cons x l ih => intro a; rw [List.foldl_cons, List.foldl_cons, ih (a + x), ih (0 + x)]; omega
theorem sm_nil (f : Nat → Int) : sm f [] = 0 := rfl
theorem sm_cons (f : Nat → Int) (k : Nat) (ks : List Nat) : sm f (k :: ks) = f k + sm f ks := by
 unfold sm
 rw [List.map_cons, List.foldl_cons, foldl_add]; omega
theorem sm_congr {f g : Nat → Int} {ks : List Nat} (h : ∀ k ∈ ks, f k = g k) : sm f ks = sm g ks := by
 induction ks with
 | nil => rfl
 | cons k ks ih => rw [sm_cons, sm_cons, h k (by simp), ih (fun j hj => h j (by simp [hj]))]
theorem sm_le {f g : Nat → Int} {ks : List Nat} (h : ∀ k ∈ ks, f k ≤ g k) : sm f ks ≤ sm g ks := by
 induction ks with
 | nil => exact Int.le_refl _
 | cons k ks ih => rw [sm_cons, sm_cons]; have := h k (by simp); have := ih (fun j hj => h j (by simp [hj])); omega
theorem sm_bound {f : Nat → Int} {ks : List Nat} {a b : Int} (h : ∀ k ∈ ks, a ≤ f k ∧ f k ≤ b) : a * ks.length ≤ sm f ks ∧ sm f ks ≤ b * ks.length := by
 induction ks with
 | nil => simp [sm_nil]
 | cons k ks ih =>
  rw [sm_cons]
  have h1 := h k (by simp)
  have h2 := ih (fun j hj => h j (by simp [hj]))
  simp only [List.length_cons, Int.natCast_add, Int.natCast_one, Int.mul_add, Int.mul_one]
  omega
theorem sm_nonneg {f : Nat → Int} {ks : List Nat} (h : ∀ k ∈ ks, 0 ≤ f k) : 0 ≤ sm f ks := by
 induction ks with
 | nil => exact Int.le_refl _
 | cons k ks ih => rw [sm_cons]; have := h k (by simp); have := ih (fun j hj => h j (by simp [hj])); omega
theorem sm_ge {f : Nat → Int} {ks : List Nat} (h : ∀ k ∈ ks, 0 ≤ f k) {k : Nat} (hk : k ∈ ks) : f k ≤ sm f ks := by
 induction ks with
 | nil => cases hk
 | cons j ks ih =>
  rw [sm_cons]
  have h1 := h j (by simp)
  have h2 := sm_nonneg (fun i hi => h i (List.mem_cons_of_mem _ hi))
  rcases List.mem_cons.1 hk with rfl | hk
  ·omega
  ·have := ih (fun i hi => h i (List.mem_cons_of_mem _ hi)) hk; omega
theorem sm_append (f : Nat → Int) (a b : List Nat) : sm f (a ++ b) = sm f a + sm f b := by
 induction a with
 | nil => simp [sm_nil]
 | cons x a ih => rw [List.cons_append, sm_cons, sm_cons, ih]; omega
theorem sm_split (f : Nat → Int) {ks : List Nat} {k : Nat} (hk : k ∈ ks) : ∃ a b, ks = a ++ k :: b ∧ sm f ks = f k + sm f (a ++ b) := by
 obtain ⟨a, b, rfl⟩ := List.append_of_mem hk
 exact ⟨a, b, rfl, by rw [sm_append, sm_append, sm_cons]; omega⟩
theorem fill (lo hi : Nat → Int) (ks : List Nat) (hn : ks.Nodup) (h : ∀ k ∈ ks, lo k ≤ hi k) : ∀ s, sm lo ks ≤ s → s ≤ sm hi ks → ∃ c : Nat → Int, (∀ k ∈ ks, lo k ≤ c k ∧ c k ≤ hi k) ∧ sm c ks = s := by
 induction ks with
 | nil => intro s h1 h2; exact ⟨fun _ => 0, (fun k hk => by cases hk), (by rw [sm_nil] at *; omega)⟩
 | cons k ks ih =>
  intro s h1 h2
  rw [sm_cons] at h1 h2
  have hk := h k (by simp)
  have hle := sm_le (fun j hj => h j (List.mem_cons_of_mem _ hj))
  rw [List.nodup_cons] at hn
  have key : ∃ v, lo k ≤ v ∧ v ≤ hi k ∧ sm lo ks ≤ s - v ∧ s - v ≤ sm hi ks := by
   by_cases hc : s - lo k ≤ sm hi ks
   ·exact ⟨lo k, by omega, by omega, by omega, by omega⟩
   ·exact ⟨s - sm hi ks, by omega, by omega, by omega, by omega⟩
  obtain ⟨v, hv1, hv2, hv3, hv4⟩ := key
  obtain ⟨c, hc, hs⟩ := ih hn.2 (fun j hj => h j (List.mem_cons_of_mem _ hj)) (s - v) hv3 hv4
  refine ⟨fun j => if j = k then v else c j, ?_, ?_⟩
  ·intro j hj
   rcases List.mem_cons.1 hj with rfl | hj
   ·simp only [if_true]; exact ⟨hv1, hv2⟩
   ·have : j ≠ k := fun e => hn.1 (e ▸ hj)
    simp only [this, if_false]; exact hc j hj
  ·rw [sm_cons]
   simp only [if_true]
   rw [sm_congr (g := c) (fun j hj => by have : j ≠ k := fun e => hn.1 (e ▸ hj); simp [this]), hs]; omega
structure Net where
 n : Nat
 kid : Nat → List Nat
 loss : Nat → Int
structure Net.Ok (T : Net) : Prop where
 lt : ∀ i k, k ∈ T.kid i → i < k ∧ k < T.n
 nodup : ∀ i, (T.kid i).Nodup
 one : ∀ i j k, k ∈ T.kid i → k ∈ T.kid j → i = j
 loss0 : ∀ i, i < T.n → 0 ≤ T.loss i
def Net.eq (T : Net) (x : Nat → Int) (i : Nat) : Prop := T.kid i ≠ [] → 0 ≤ x i - sm x (T.kid i) ∧ x i - sm x (T.kid i) ≤ T.loss i
def Sol (T : Net) (lo hi : Nat → Int) (x : Nat → Int) : Prop := (∀ i, i < T.n → lo i ≤ x i ∧ x i ≤ hi i) ∧ ∀ i, i < T.n → T.eq x i
theorem eq_congr {T : Net} {x y : Nat → Int} {i : Nat} (h0 : x i = y i) (h : ∀ k ∈ T.kid i, x k = y k) (hx : T.eq x i) : T.eq y i := by
 intro hk
 have := hx hk
 rw [sm_congr h, h0] at this
 exact this
theorem extend (T : Net) (hT : T.Ok) (lo hi : Nat → Int) (hne : ∀ i, i < T.n → lo i ≤ hi i) (hup : ∀ i, i < T.n → T.kid i ≠ [] → sm lo (T.kid i) ≤ lo i ∧ hi i ≤ sm hi (T.kid i) + T.loss i) :
  ∀ (d m : Nat), m + d = T.n → ∀ x : Nat → Int, (∀ i, i < T.n → lo i ≤ x i ∧ x i ≤ hi i) → (∀ i, i < m → T.eq x i) →
   ∃ y, Sol T lo hi y ∧ ∀ j, (∀ i, m ≤ i → j ∉ T.kid i) → y j = x j := by
 intro d
 induction d with
 | zero =>
  intro m hm x hx he
  exact ⟨x, ⟨hx, fun i hi => he i (by omega)⟩, fun _ _ => rfl⟩
 | succ d ih =>
  intro m hm x hx he
  have hmn : m < T.n := by omega
  have key : ∃ x', (∀ i, i < T.n → lo i ≤ x' i ∧ x' i ≤ hi i) ∧ (∀ i, i < m + 1 → T.eq x' i) ∧ ∀ j, j ∉ T.kid m → x' j = x j := by
   by_cases hk : T.kid m = []
   ·refine ⟨x, hx, fun i hi => ?_, fun _ _ => rfl⟩
    by_cases h : i < m
    ·exact he i h
    ·rw [show i = m by omega]; intro h'; exact absurd hk h'
   ·have h1 := hup m hmn hk
    have h2 := hx m hmn
    have hle : sm lo (T.kid m) ≤ sm hi (T.kid m) := sm_le (fun k hk' => hne k (hT.lt m k hk').2)
    have hl0 := hT.loss0 m hmn
    have hs : ∃ s, sm lo (T.kid m) ≤ s ∧ s ≤ sm hi (T.kid m) ∧ 0 ≤ x m - s ∧ x m - s ≤ T.loss m := by
     by_cases hc : x m ≤ sm hi (T.kid m)
     ·exact ⟨x m, by omega, by omega, by omega, by omega⟩
     ·exact ⟨sm hi (T.kid m), by omega, by omega, by omega, by omega⟩
    obtain ⟨s, hs1, hs2, hs3, hs4⟩ := hs
    obtain ⟨c, hc, hcs⟩ := fill lo hi (T.kid m) (hT.nodup m) (fun k hk' => hne k (hT.lt m k hk').2) s hs1 hs2
    refine ⟨fun j => if j ∈ T.kid m then c j else x j, ?_, ?_, ?_⟩
    ·intro i hi'
     by_cases h : i ∈ T.kid m
     ·simp only [h, if_true]; exact hc i h
     ·simp only [h, if_false]; exact hx i hi'
    ·intro i hi'
     by_cases h : i < m
     ·refine eq_congr (x := x) ?_ ?_ (he i h)
      ·have : i ∉ T.kid m := fun hm' => by have := (hT.lt m i hm').1; omega
       simp [this]
      ·intro k hk'
       have : k ∉ T.kid m := fun hm' => by have := hT.one i m k hk' hm'; omega
       simp [this]
     ·have e : i = m := by omega
      subst e
      intro _
      have h3 : i ∉ T.kid i := fun hm' => by have := (hT.lt i i hm').1; omega
      rw [sm_congr (g := c) (fun k hk' => by simp [hk'])]
      simp only [h3, if_false]
      rw [hcs]
      exact ⟨hs3, hs4⟩
    ·intro j hj
     simp [hj]
  obtain ⟨x', hx', he', hk'⟩ := key
  obtain ⟨y, hy, hyx⟩ := ih (m + 1) (by omega) x' hx' he'
  refine ⟨y, hy, fun j hj => ?_⟩
  rw [hyx j (fun i hi' => hj i (by omega)), hk' j (hj m (Nat.le_refl _))]
theorem exact (T : Net) (hT : T.Ok) (lo hi dl dh : Nat → Int) (hne : ∀ i, i < T.n → lo i ≤ hi i)
  (hup : ∀ i, i < T.n → T.kid i ≠ [] → sm lo (T.kid i) ≤ lo i ∧ hi i ≤ sm hi (T.kid i) + T.loss i)
  (hsub : ∀ i, i < T.n → lo i ≤ dl i ∧ dl i ≤ dh i ∧ dh i ≤ hi i)
  (hdn : ∀ i, i < T.n → ∀ k ∈ T.kid i, dl i - T.loss i - (sm hi (T.kid i) - hi k) ≤ dl k ∧ dh k ≤ dh i - (sm lo (T.kid i) - lo k)) :
  ∀ (k : Nat), k < T.n → ∀ v, dl k ≤ v → v ≤ dh k → ∃ x, Sol T lo hi x ∧ x k = v := by
 intro k
 induction k using Nat.strongRecOn with
 | ind k ih =>
  intro hk v hv1 hv2
  by_cases hp : ∃ i, i < T.n ∧ k ∈ T.kid i
  ·obtain ⟨i, hi', hki⟩ := hp
   have hik := (hT.lt i k hki).1
   have hne' : T.kid i ≠ [] := fun h => by rw [h] at hki; cases hki
   have h1 := hdn i hi' k hki
   have h2 := hsub i hi'
   have h3 := hup i hi' hne'
   have h4 := hsub k hk
   have hl0 := hT.loss0 i hi'
   obtain ⟨a, b, hab, hlo⟩ := sm_split lo hki
   have hhi : sm hi (T.kid i) = hi k + sm hi (a ++ b) := by rw [hab, sm_append, sm_append, sm_cons]; omega
   have hnd : (a ++ b).Nodup ∧ k ∉ a ++ b := by
    have := hT.nodup i
    rw [hab] at this
    rw [List.nodup_append] at this
    obtain ⟨ha, hb, hd⟩ := this
    rw [List.nodup_cons] at hb
    refine ⟨List.nodup_append.2 ⟨ha, hb.2, fun x hx y hy => hd x hx y (List.mem_cons_of_mem _ hy)⟩, fun h => ?_⟩
    rcases List.mem_append.1 h with h | h
    ·exact hd k h k (by simp) rfl
    ·exact hb.1 h
   have hmem : ∀ j ∈ a ++ b, j ∈ T.kid i := by
    intro j hj
    rw [hab]
    rcases List.mem_append.1 hj with h | h
    ·exact List.mem_append.2 (.inl h)
    ·exact List.mem_append.2 (.inr (List.mem_cons_of_mem _ h))
   have hle : sm lo (a ++ b) ≤ sm hi (a ++ b) := sm_le (fun j hj => hne j (hT.lt i j (hmem j hj)).2)
   have hw : ∃ w s, dl i ≤ w ∧ w ≤ dh i ∧ sm lo (a ++ b) ≤ s ∧ s ≤ sm hi (a ++ b) ∧ 0 ≤ w - (v + s) ∧ w - (v + s) ≤ T.loss i := by
    by_cases hc : dl i ≤ sm lo (a ++ b) + v
    ·exact ⟨sm lo (a ++ b) + v, sm lo (a ++ b), by omega, by omega, by omega, by omega, by omega, by omega⟩
    ·by_cases hc2 : dl i - v ≤ sm hi (a ++ b)
     ·exact ⟨dl i, dl i - v, by omega, by omega, by omega, by omega, by omega, by omega⟩
     ·exact ⟨dl i, sm hi (a ++ b), by omega, by omega, by omega, by omega, by omega, by omega⟩
   obtain ⟨w, s, hw1, hw2, hs1, hs2, hs3, hs4⟩ := hw
   obtain ⟨y, hy, hyi⟩ := ih i hik hi' w hw1 hw2
   obtain ⟨c, hc, hcs⟩ := fill lo hi (a ++ b) hnd.1 (fun j hj => hne j (hT.lt i j (hmem j hj)).2) s hs1 hs2
   let c' : Nat → Int := fun j => if j = k then v else c j
   have hc' : ∀ j ∈ T.kid i, lo j ≤ c' j ∧ c' j ≤ hi j := by
    intro j hj
    by_cases h : j = k
    ·subst h; simp only [c', if_true]; omega
    ·simp only [c', h, if_false]
     refine hc j ?_
     rw [hab] at hj
     rcases List.mem_append.1 hj with h' | h'
     ·exact List.mem_append.2 (.inl h')
     ·rcases List.mem_cons.1 h' with h' | h'
      ·exact absurd h' h
      ·exact List.mem_append.2 (.inr h')
   have hcs' : sm c' (T.kid i) = v + s := by
    have : sm c' (T.kid i) = c' k + sm c' (a ++ b) := by rw [hab, sm_append, sm_append, sm_cons]; omega
    rw [this, sm_congr (f := c') (g := c) (fun j hj => by have : j ≠ k := fun e => hnd.2 (e ▸ hj); simp [c', this]), hcs]
    simp [c']
   obtain ⟨z, hz, hzx⟩ := extend T hT lo hi hne hup (T.n - (i + 1)) (i + 1) (by omega) (fun j => if j ∈ T.kid i then c' j else y j)
    (fun j hj => by
     by_cases h : j ∈ T.kid i
     ·simp only [h, if_true]; exact hc' j h
     ·simp only [h, if_false]; exact hy.1 j hj)
    (fun j hj => by
     by_cases h : j < i
     ·refine eq_congr (x := y) ?_ ?_ (hy.2 j (by omega))
      ·have : j ∉ T.kid i := fun hm' => by have := (hT.lt i j hm').1; omega
       simp [this]
      ·intro q hq
       have : q ∉ T.kid i := fun hm' => by have := hT.one j i q hq hm'; omega
       simp [this]
     ·have e : j = i := by omega
      subst e
      intro _
      have h3 : j ∉ T.kid j := fun hm' => by have := (hT.lt j j hm').1; omega
      rw [sm_congr (g := c') (fun q hq => by simp [hq])]
      simp only [h3, if_false]
      rw [hcs', hyi]
      exact ⟨hs3, hs4⟩)
   refine ⟨z, hz, ?_⟩
   rw [hzx k (fun j hj hk' => by have := hT.one i j k hki hk'; omega)]
   simp [hki, c']
  ·have h4 := hsub k hk
   obtain ⟨z, hz, hzx⟩ := extend T hT lo hi hne hup T.n 0 (by omega) (fun j => if j = k then v else lo j)
    (fun j hj => by
     by_cases h : j = k
     ·subst h; simp only [if_true]; omega
     ·simp only [h, if_false]; exact ⟨Int.le_refl _, hne j hj⟩)
    (fun j hj => absurd hj (Nat.not_lt_zero _))
   refine ⟨z, hz, ?_⟩
   rw [hzx k (fun j _ hk' => hp ⟨j, by have := hT.lt j k hk'; omega, hk'⟩)]
   simp
end Go.Proofs.FlowTree
end
section
namespace Go.Proofs.Ytolmjhpapidmhaa.P
open Go.RowKit Go.Proofs.YtolmjhpapidmhaaW.PrintWords Go.Proofs.YtolmjhpapidmhaaW.PrintLast Go.Proofs.YtolmjhpapidmhaaW.PrintMore Go.Proofs.YtolmjhpapidmhaaH Go.Proofs.FlowTree
abbrev idP (l : List S44) (i : Nat) : Int := (rd_T44 l i).f0
abbrev abP (l : List S44) (i : Nat) : Int := (rd_T44 l i).f1
abbrev loP (l : List S44) (i : Nat) : Int := (rd_T44 l i).f2
def okP (l : List S44) (i : Nat) : Prop := 1 ≤ idP l i ∧ (0 < i → idP l (i - 1) < idP l i) ∧ (0 ≤ loP l i ∧ loP l i ≤ 1000000000) ∧ (abP l i ≠ 0 → ∃ j, j < i ∧ idP l j = abP l i)
def kidsAt (l : List S44) (m i : Nat) : List Nat := (List.range m).filter (fun k => decide (i < k) && decide (abP l k = idP l i))
def netT (l : List S44) : Net := { n := l.length, kid := kidsAt l l.length, loss := loP l }
theorem kidsAt_mem {l : List S44} {m i k : Nat} : k ∈ kidsAt l m i ↔ k < m ∧ i < k ∧ abP l k = idP l i := by
 simp [kidsAt]
theorem kidsAt_succ (l : List S44) (m i : Nat) : kidsAt l (m + 1) i = kidsAt l m i ++ (if i < m ∧ abP l m = idP l i then [m] else []) := by
 unfold kidsAt
 rw [List.range_succ, List.filter_append]
 congr 1
 by_cases h : i < m ∧ abP l m = idP l i
 ·rw [if_pos h, List.filter_cons_of_pos (by simp [h])]; rfl
 ·rw [if_neg h, List.filter_cons_of_neg (by simpa using h)]; rfl
theorem asc_of {l : List S44} {m : Nat} (h : ∀ i, i < m → okP l i) : ∀ d i j, j = i + d + 1 → j < m → idP l i < idP l j := by
 intro d
 induction d with
 | zero =>
  intro i j e hj
  have := (h j hj).2.1 (by omega)
  rwa [show j - 1 = i by omega] at this
 | succ d ih =>
  intro i j e hj
  have h1 := ih i (j - 1) (by omega) (by omega)
  have h2 := (h j hj).2.1 (by omega)
  omega
theorem asc {l : List S44} {m : Nat} (h : ∀ i, i < m → okP l i) {i j : Nat} (hij : i < j) (hj : j < m) : idP l i < idP l j := asc_of h (j - i - 1) i j (by omega) hj
theorem id_inj {l : List S44} {m : Nat} (h : ∀ i, i < m → okP l i) {i j : Nat} (hi : i < m) (hj : j < m) (e : idP l i = idP l j) : i = j := by
 rcases Nat.lt_trichotomy i j with h1 | h1 | h1
 ·have := asc h h1 hj; omega
 ·exact h1
 ·have := asc h h1 hi; omega
theorem isVol_iff (n : Int) : isVol n = true ↔ 0 ≤ n ∧ n ≤ 1000000000 := by simp [isVol]
structure OpenAt (l : List S44) (m : Nat) (kids : List (List Int)) (at_ : Int → Option Int) : Prop where
 len : kids.length = l.length
 kid : ∀ j, j < l.length → rdK kids j = (kidsAt l m j).map Int.ofNat
 has : ∀ id j, at_ id = some j → ∃ n : Nat, j = n ∧ n < m ∧ idP l n = id
 all : ∀ n, n < m → at_ (idP l n) = some (n : Int)
theorem rdK_set (kids : List (List Int)) (i j : Nat) (x : List Int) (hi : i < kids.length) : rdK (kids.set i x) j = if i = j then x else rdK kids j := by
 simp only [rdK, List.getD_eq_getElem?_getD, Int.toNat_natCast, List.getElem?_set]
 by_cases h : i = j
 ·subst h; simp [hi]
 ·simp [h]
theorem bad_iff (l : List S44) (m : Nat) (kids : List (List Int)) (at_ : Int → Option Int) (h : OpenAt l m kids at_) : badP l m (at_ (abP l m)).isSome = false ↔ okP l m := by
 have hasiff : (at_ (abP l m)).isSome = true ↔ ∃ j, j < m ∧ idP l j = abP l m := by
  constructor
  ·intro hs
   obtain ⟨j, hj⟩ := Option.isSome_iff_exists.1 hs
   obtain ⟨n, _, hn, e⟩ := h.has _ _ hj
   exact ⟨n, hn, e⟩
  ·rintro ⟨j, hj, e⟩
   rw [← e, h.all j hj]
   rfl
 have hm1 : (0 : Int) < (m : Int) → ((m : Int) - 1) = ((m - 1 : Nat) : Int) := by omega
 unfold badP okP
 simp only [idP, loP, abP] at *
 constructor
 ·intro hb
  simp only [Bool.or_eq_false_iff, Bool.and_eq_false_iff, decide_eq_false_iff_not, Bool.not_eq_false', isVol_iff, bne_eq_false_iff_eq, Bool.not_eq_false'] at hb
  obtain ⟨⟨⟨h1, h2⟩, h3⟩, h4⟩ := hb
  refine ⟨by omega, fun hm => ?_, h3, fun ha => ?_⟩
  ·rcases h2 with h2 | h2
   ·omega
   ·rw [hm1 (by omega)] at h2; omega
  ·rcases h4 with h4 | h4
   ·exact absurd h4 ha
   ·exact hasiff.1 h4
 ·rintro ⟨h1, h2, h3, h4⟩
  simp only [Bool.or_eq_false_iff, Bool.and_eq_false_iff, decide_eq_false_iff_not, Bool.not_eq_false', isVol_iff, bne_eq_false_iff_eq, Bool.not_eq_false']
  refine ⟨⟨⟨by omega, ?_⟩, h3⟩, ?_⟩
  ·by_cases hm : 0 < m
   ·refine .inr ?_
    rw [hm1 (by omega)]
    have := h2 hm
    omega
   ·exact .inl (by omega)
  ·by_cases ha : abP l m = 0
   ·exact .inl ha
   ·exact .inr (hasiff.2 (h4 ha))
theorem open_step (l : List S44) (m : Nat) (hm : m < l.length) (kids : List (List Int)) (at_ : Int → Option Int) (h : OpenAt l m kids at_) (hok : ∀ i, i < m + 1 → okP l i) :
  OpenAt l (m + 1) (addKid kids (at_ (abP l m)) m) (setI at_ (idP l m) m) := by
 refine ⟨(addKid_len _ _ _).trans h.len, fun j hj => ?_, fun id j hj => ?_, fun n hn => ?_⟩
 ·rw [kidsAt_succ, List.map_append]
  cases ha : at_ (abP l m) with
  | none =>
   have hno : ¬ (j < m ∧ abP l m = idP l j) := by
    rintro ⟨h1, h2⟩
    rw [h2, h.all j h1] at ha
    cases ha
   rw [if_neg hno]
   simp only [addKid, List.map_nil, List.append_nil]
   exact h.kid j hj
  | some a =>
   obtain ⟨n, rfl, hn, hid⟩ := h.has _ _ ha
   have hnl : n < kids.length := by rw [h.len]; omega
   simp only [addKid]
   rw [Int.toNat_natCast, rdK_set _ _ _ _ hnl]
   by_cases e : n = j
   ·subst e
    rw [if_pos rfl, if_pos ⟨hn, hid.symm⟩, h.kid n hj]
    rfl
   ·rw [if_neg e, if_neg (fun hh => e (id_inj hok (by omega) (by omega) (hid.trans hh.2))), h.kid j hj]
    simp
 ·unfold setI at hj
  split at hj
  ·rename_i e
   injection hj with hj
   exact ⟨m, hj.symm, by omega, e.symm⟩
  ·obtain ⟨n, e, hn, hid⟩ := h.has _ _ hj
   exact ⟨n, e, by omega, hid⟩
 ·unfold setI
  by_cases e : n = m
  ·subst e; rw [if_pos rfl]
  ·rw [if_neg (fun hh => e (id_inj hok (by omega) (by omega) hh)), h.all n (by omega)]
theorem openL_spec (l : List S44) : ∀ (k m : Nat) (kids : List (List Int)) (at_ : Int → Option Int), m + k = l.length → OpenAt l m kids at_ → (∀ i, i < m → okP l i) →
  (∀ r, openL l k kids at_ m = some r → (∀ i, i < l.length → okP l i) ∧ r.length = l.length ∧ ∀ j, j < l.length → rdK r j = (kidsAt l l.length j).map Int.ofNat) ∧ ((∀ i, i < l.length → okP l i) → ∃ r, openL l k kids at_ m = some r) := by
 intro k
 induction k with
 | zero =>
  intro m kids at_ hm h hok
  have e : m = l.length := by omega
  subst e
  refine ⟨fun r hr => ?_, fun _ => ⟨kids, rfl⟩⟩
  simp only [openL, Option.some.injEq] at hr
  subst hr
  exact ⟨hok, h.len, h.kid⟩
 | succ k ih =>
  intro m kids at_ hm h hok
  have hb := bad_iff l m kids at_ h
  simp only [openL]
  cases hbad : badP l m (at_ (abP l m)).isSome with
  | true =>
   have hno : ¬ okP l m := fun ho => by rw [hb.2 ho] at hbad; cases hbad
   rw [if_pos rfl]
   exact ⟨(fun r hr => by cases hr), fun ho => absurd (ho m (by omega)) hno⟩
  | false =>
   have hyes := hb.1 hbad
   rw [if_neg (by decide)]
   have hok' : ∀ i, i < m + 1 → okP l i := fun i hi => by
    by_cases h' : i < m
    ·exact hok i h'
    ·rw [show i = m by omega]; exact hyes
   have := ih (m + 1) (addKid kids (at_ (abP l m)) m) (setI at_ (idP l m) m) (by omega) (open_step l m (by omega) kids at_ h hok') hok'
   rw [show ((m + 1 : Nat) : Int) = (m : Int) + 1 from by omega] at this
   exact this
theorem openAt0 (l : List S44) : OpenAt l 0 (List.replicate l.length []) (fun _ => none) := by
 refine ⟨by simp, fun j hj => ?_, (fun id j hj => by cases hj), fun n hn => absurd hn (Nat.not_lt_zero _)⟩
 simp [rdK, kidsAt, List.getD_eq_getElem?_getD, hj]
def okL (l : List S44) : Prop := ∀ i, i < l.length → okP l i
theorem openK_some {l : List S44} {kids : List (List Int)} (h : openK l = some kids) : okL l ∧ ∀ j, j < l.length → rdK kids j = (kidsAt l l.length j).map Int.ofNat := by
 have := (openL_spec l l.length 0 _ _ (by omega) (openAt0 l) (fun i hi => absurd hi (Nat.not_lt_zero _))).1 kids h
 exact ⟨this.1, this.2.2⟩
theorem openK_of {l : List S44} (h : okL l) : ∃ kids, openK l = some kids :=
 (openL_spec l l.length 0 _ _ (by omega) (openAt0 l) (fun i hi => absurd hi (Nat.not_lt_zero _))).2 h
theorem netT_ok {l : List S44} (h : okL l) : (netT l).Ok := by
 refine ⟨fun i k hk => ?_, fun i => ?_, fun i j k hi hj => ?_, fun i hi => (h i hi).2.2.1.1⟩
 ·have := kidsAt_mem.1 hk; exact ⟨this.2.1, this.1⟩
 ·exact List.Nodup.sublist List.filter_sublist List.nodup_range
 ·have h1 := kidsAt_mem.1 hi
  have h2 := kidsAt_mem.1 hj
  exact id_inj h (show i < l.length by omega) (show j < l.length by omega) (h1.2.2.symm.trans h2.2.2)
end Go.Proofs.Ytolmjhpapidmhaa.P
end
section
namespace Go.Proofs.Ytolmjhpapidmhaa.P
open Go.RowKit Go.Proofs.YtolmjhpapidmhaaW.PrintWords Go.Proofs.YtolmjhpapidmhaaW.PrintLast Go.Proofs.YtolmjhpapidmhaaW.PrintMore Go.Proofs.YtolmjhpapidmhaaH Go.Proofs.FlowTree
abbrev IV := S74
abbrev PI := S44
abbrev rv (r : List IV) (i : Nat) : IV := rd_T74 r i
def Lo (r : List IV) (i : Nat) : Int := (rv r i).f0
def Hi (r : List IV) (i : Nat) : Int := (rv r i).f1
def Vol (n : Nat) (lo hi : Nat → Int) : Prop := ∀ i, i < n → 0 ≤ lo i ∧ lo i ≤ hi i ∧ hi i ≤ 1000000000
theorem rv_set (r : List IV) (i j : Nat) (y : IV) (hi : i < r.length) : rv (r.set i y) j = if i = j then y else rv r j := by
 simp only [rv, rd_T74, List.getD_eq_getElem?_getD, Int.toNat_natCast, List.getElem?_set]
 by_cases h : i = j
 ·subst h; simp [hi]
 ·simp [h]
theorem wrap_id {n : Int} (h1 : -9223372036854775808 ≤ n) (h2 : n ≤ 9223372036854775807) : wrap64 n = n := by unfold wrap64; omega
theorem total_fold (φ : IV → Int) (xs : List IV) : ∀ s : Int, 0 ≤ s → s + 1000000000 * xs.length ≤ 1000000000000 → (∀ x ∈ xs, 0 ≤ φ x ∧ φ x ≤ 1000000000) → xs.foldl (fun s x => wrap64 (s + φ x)) s = (xs.map φ).foldl (· + ·) s := by
 induction xs with
 | nil => intro s _ _ _; rfl
 | cons x xs ih =>
  intro s h0 h1 h
  have hx := h x (by simp)
  simp only [List.length_cons, Int.natCast_add, Int.natCast_one, Int.mul_add, Int.mul_one] at h1
  have hl : (0 : Int) ≤ 1000000000 * xs.length := by omega
  rw [List.foldl_cons, List.map_cons, List.foldl_cons, wrap_id (by omega) (by omega)]
  exact ih (s + φ x) (by omega) (by omega) (fun y hy => h y (List.mem_cons_of_mem _ hy))
theorem total_eq (φ : IV → Int) (r : List IV) (ks : List Nat) (hl : ks.length ≤ 200) (h : ∀ k ∈ ks, 0 ≤ φ (rv r k) ∧ φ (rv r k) ≤ 1000000000) : totalF φ (ks.map (fun k => rv r k)) = sm (fun k => φ (rv r k)) ks := by
 unfold totalF sm
 rw [total_fold φ _ 0 (Int.le_refl _) (by rw [List.length_map]; omega) (by
  intro x hx
  obtain ⟨k, hk, rfl⟩ := List.mem_map.1 hx
  exact h k hk), List.map_map]
 rfl
theorem kids_len (l : List PI) (i : Nat) : (kidsAt l l.length i).length ≤ l.length := by
 unfold kidsAt
 exact Nat.le_trans (List.length_filter_le _ _) (by simp)
section
variable {l : List PI} {kids : List (List Int)}
theorem below_eq (hk : ∀ j, j < l.length → rdK kids j = (kidsAt l l.length j).map Int.ofNat) (r : List IV) (i : Nat) (hi : i < l.length) : belowI kids r i = (kidsAt l l.length i).map (fun k => rv r k) := by
 unfold belowI
 rw [hk i hi, List.map_map]
 rfl
theorem cutI_f0 (x : IV) (a b : Int) : (cutI x a b).f0 = max x.f0 a := by simp only [cutI, mx]; split <;> omega
theorem cutI_f1 (x : IV) (a b : Int) : (cutI x a b).f1 = min x.f1 b := by simp only [cutI, mn]; split <;> omega
structure UpAt (l : List PI) (r : List IV) (m : Nat) (u : List IV) : Prop where
 len : u.length = l.length
 old : ∀ j, j < m → rv u j = rv r j
 now : (∃ j, m ≤ j ∧ j < l.length ∧ Hi u j < Lo u j) ∧ (¬ ∃ x, Sol (netT l) (Lo r) (Hi r) x) ∨
  (∀ j, m ≤ j → j < l.length → (0 ≤ Lo u j ∧ Lo u j ≤ Hi u j ∧ Hi u j ≤ 1000000000 ∧ Lo r j ≤ Lo u j ∧ Hi u j ≤ Hi r j) ∧ (kidsAt l l.length j ≠ [] → sm (Lo u) (kidsAt l l.length j) ≤ Lo u j ∧ Hi u j ≤ sm (Hi u) (kidsAt l l.length j) + loP l j)) ∧
  (∀ x, Sol (netT l) (Lo r) (Hi r) x → ∀ j, m ≤ j → j < l.length → Lo u j ≤ x j ∧ x j ≤ Hi u j)
theorem up_step (hok : okL l) (hn : l.length ≤ 200) (hk : ∀ j, j < l.length → rdK kids j = (kidsAt l l.length j).map Int.ofNat) {r u : List IV} (hv : Vol l.length (Lo r) (Hi r)) {i : Nat} (hi : i < l.length) (h : UpAt l r (i + 1) u) :
  UpAt l r i (upStep l kids u i) := by
 have hil : i < u.length := by rw [h.len]; exact hi
 have hlo : (rd_T44 l i).f2 = loP l i := rfl
 unfold upStep
 rw [below_eq hk u i hi, List.length_map, hlo]
 by_cases hne : kidsAt l l.length i = []
 ·rw [hne]
  simp only [List.length_nil, Nat.lt_irrefl, if_false]
  refine ⟨h.len, fun j hj => h.old j (by omega), ?_⟩
  have e : rv u i = rv r i := h.old i (by omega)
  rcases h.now with ⟨⟨j, h1, h2, h3⟩, hs⟩ | ⟨ha, hs⟩
  ·exact .inl ⟨⟨j, by omega, h2, h3⟩, hs⟩
  ·refine .inr ⟨fun j h1 h2 => ?_, fun x hx j h1 h2 => ?_⟩
   ·by_cases hj : i + 1 ≤ j
    ·exact ha j hj h2
    ·have e2 : j = i := by omega
     subst e2
     have h4 := hv j h2
     refine ⟨?_, fun hc => absurd hne hc⟩
     simp only [Lo, Hi, e] at *
     omega
   ·by_cases hj : i + 1 ≤ j
    ·exact hs x hx j hj h2
    ·have e2 : j = i := by omega
     subst e2
     have h4 := hx.1 j h2
     simp only [Lo, Hi, e] at *
     exact h4
 ·have hpos : 0 < (kidsAt l l.length i).length := List.length_pos_iff.2 hne
  rw [if_pos hpos, Int.toNat_natCast]
  have hset : ∀ y j, rv (u.set i y) j = if i = j then y else rv u j := fun y j => rv_set u i j y hil
  have hkid : ∀ k ∈ kidsAt l l.length i, i + 1 ≤ k ∧ k < l.length := fun k hk' => by have := kidsAt_mem.1 hk'; exact ⟨by omega, by omega⟩
  rcases h.now with ⟨⟨j, h1, h2, h3⟩, hs⟩ | ⟨ha, hs⟩
  ·refine ⟨by rw [List.length_set]; exact h.len, fun j hj => by rw [hset, if_neg (by omega)]; exact h.old j (by omega), .inl ⟨⟨j, by omega, h2, ?_⟩, hs⟩⟩
   simp only [Lo, Hi, hset, if_neg (show ¬ i = j by omega)] at *
   exact h3
  ·have hL : totalF S74.f0 ((kidsAt l l.length i).map (fun k => rv u k)) = sm (Lo u) (kidsAt l l.length i) := by
    rw [total_eq _ _ _ (Nat.le_trans (kids_len l i) hn) (fun k hk' => by have := (ha k (hkid k hk').1 (hkid k hk').2).1; simp only [Lo, Hi] at this; omega)]
    rfl
   have hH : totalF S74.f1 ((kidsAt l l.length i).map (fun k => rv u k)) = sm (Hi u) (kidsAt l l.length i) := by
    rw [total_eq _ _ _ (Nat.le_trans (kids_len l i) hn) (fun k hk' => by have := (ha k (hkid k hk').1 (hkid k hk').2).1; simp only [Lo, Hi] at this; omega)]
    rfl
   have bH := sm_bound (f := Hi u) (ks := kidsAt l l.length i) (a := 0) (b := 1000000000) (fun k hk' => by have := (ha k (hkid k hk').1 (hkid k hk').2).1; omega)
   have bL := sm_bound (f := Lo u) (ks := kidsAt l l.length i) (a := 0) (b := 1000000000) (fun k hk' => by have := (ha k (hkid k hk').1 (hkid k hk').2).1; omega)
   have bl := kids_len l i
   have bo := (hok i hi).2.2.1
   rw [hL, hH, wrap_id (by omega) (by omega)]
   obtain ⟨y, hy⟩ : ∃ y, y = cutI (rd_T74 u i) (sm (Lo u) (kidsAt l l.length i)) (sm (Hi u) (kidsAt l l.length i) + loP l i) := ⟨_, rfl⟩
   rw [← hy]
   have hy0 : y.f0 = max (Lo u i) (sm (Lo u) (kidsAt l l.length i)) := by rw [hy, cutI_f0]; rfl
   have hy1 : y.f1 = min (Hi u i) (sm (Hi u) (kidsAt l l.length i) + loP l i) := by rw [hy, cutI_f1]; rfl
   have er : rv u i = rv r i := h.old i (by omega)
   have hri := hv i hi
   have hrl : Lo u i = Lo r i := by simp only [Lo, er]
   have hrh : Hi u i = Hi r i := by simp only [Hi, er]
   have hsol : ∀ x, Sol (netT l) (Lo r) (Hi r) x → y.f0 ≤ x i ∧ x i ≤ y.f1 := by
    intro x hx
    have h1 := hx.1 i hi
    have h2 := hx.2 i hi hne
    have h3 : sm (Lo u) (kidsAt l l.length i) ≤ sm x (kidsAt l l.length i) := sm_le (fun k hk' => (hs x hx k (hkid k hk').1 (hkid k hk').2).1)
    have h4 : sm x (kidsAt l l.length i) ≤ sm (Hi u) (kidsAt l l.length i) := sm_le (fun k hk' => (hs x hx k (hkid k hk').1 (hkid k hk').2).2)
    simp only [netT] at h2
    omega
   have old' : ∀ j, j < i → rv (u.set i y) j = rv r j := fun j hj => by rw [hset, if_neg (by omega)]; exact h.old j (by omega)
   have hne' : ∀ j, i ≠ j → Lo (u.set i y) j = Lo u j ∧ Hi (u.set i y) j = Hi u j := fun j hj => ⟨by simp only [Lo, hset, if_neg hj], by simp only [Hi, hset, if_neg hj]⟩
   have hi0 : Lo (u.set i y) i = y.f0 ∧ Hi (u.set i y) i = y.f1 := ⟨by simp only [Lo, hset, if_true], by simp only [Hi, hset, if_true]⟩
   have hkn : ∀ j, i ≤ j → ∀ k ∈ kidsAt l l.length j, i ≠ k := fun j hj k hk' => by have := kidsAt_mem.1 hk'; omega
   refine ⟨by rw [List.length_set]; exact h.len, old', ?_⟩
   by_cases hem : y.f0 ≤ y.f1
   ·refine .inr ⟨fun j h1 h2 => ?_, fun x hx j h1 h2 => ?_⟩
    ·have hsL : sm (Lo (u.set i y)) (kidsAt l l.length j) = sm (Lo u) (kidsAt l l.length j) := sm_congr (fun k hk' => (hne' k (hkn j h1 k hk')).1)
     have hsH : sm (Hi (u.set i y)) (kidsAt l l.length j) = sm (Hi u) (kidsAt l l.length j) := sm_congr (fun k hk' => (hne' k (hkn j h1 k hk')).2)
     rw [hsL, hsH]
     by_cases hj : i + 1 ≤ j
     ·rw [(hne' j (by omega)).1, (hne' j (by omega)).2]
      exact ha j hj h2
     ·have e2 : j = i := by omega
      subst e2
      rw [hi0.1, hi0.2]
      exact ⟨by omega, fun _ => by omega⟩
    ·by_cases hj : i + 1 ≤ j
     ·rw [(hne' j (by omega)).1, (hne' j (by omega)).2]
      exact hs x hx j hj h2
     ·have e2 : j = i := by omega
      subst e2
      rw [hi0.1, hi0.2]
      exact hsol x hx
   ·refine .inl ⟨⟨i, Nat.le_refl _, hi, by rw [hi0.1, hi0.2]; omega⟩, fun ⟨x, hx⟩ => ?_⟩
    have := hsol x hx
    omega
theorem up_fold (hok : okL l) (hn : l.length ≤ 200) (hk : ∀ j, j < l.length → rdK kids j = (kidsAt l l.length j).map Int.ofNat) {r : List IV} (hl : r.length = l.length) (hv : Vol l.length (Lo r) (Hi r)) :
  ∀ d, d ≤ l.length → UpAt l r (l.length - d) ((downTo l.length d).foldl (fun r (j : Nat) => upStep l kids r j) r) := by
 intro d
 induction d with
 | zero => intro _; exact ⟨hl, fun _ _ => rfl, .inr ⟨fun j h1 h2 => by omega, fun x _ j h1 h2 => by omega⟩⟩
 | succ d ih =>
  intro hd
  rw [downTo_succ, List.foldl_append]
  have h := ih (by omega)
  have e : l.length - d = (l.length - 1 - d) + 1 := by omega
  rw [e] at h
  have := up_step hok hn hk hv (i := l.length - 1 - d) (by omega) h
  rw [show l.length - (d + 1) = l.length - 1 - d by omega]
  exact this
theorem up_spec (hok : okL l) (hn : l.length ≤ 200) (hk : ∀ j, j < l.length → rdK kids j = (kidsAt l l.length j).map Int.ofNat) {r : List IV} (hl : r.length = l.length) (hv : Vol l.length (Lo r) (Hi r)) : UpAt l r 0 (upF l kids r) := by
 have := up_fold hok hn hk hl hv l.length (Nat.le_refl _)
 rw [Nat.sub_self] at this
 exact this
end
end Go.Proofs.Ytolmjhpapidmhaa.P
end
section
namespace Go.Proofs.Ytolmjhpapidmhaa.P
open Go.RowKit Go.Proofs.YtolmjhpapidmhaaW.PrintWords Go.Proofs.YtolmjhpapidmhaaW.PrintLast Go.Proofs.YtolmjhpapidmhaaW.PrintMore Go.Proofs.YtolmjhpapidmhaaH Go.Proofs.FlowTree
section
variable {l : List PI} {kids : List (List Int)}
theorem cuts (i : Nat) (lo hi : Int) (d : List IV) : ∀ (ks : List Nat) (e : List IV), ks.Nodup → i ∉ ks → (∀ k ∈ ks, k < e.length) → (∀ k ∈ ks, rv e k = rv d k) → rv e i = rv d i →
  (∀ j, j ∉ ks → rv ((ks.map Int.ofNat).foldl (downCut l i lo hi) e) j = rv e j) ∧
  (∀ k ∈ ks, rv ((ks.map Int.ofNat).foldl (downCut l i lo hi) e) k = cutI (rv d k) (wrap64 (wrap64 ((rv d i).f0 - loP l i) - wrap64 (hi - (rv d k).f1))) (wrap64 ((rv d i).f1 - wrap64 (lo - (rv d k).f0)))) := by
 intro ks
 induction ks with
 | nil => intro e _ _ _ _ _; exact ⟨fun _ _ => rfl, (fun k hk => by cases hk)⟩
 | cons k ks ih =>
  intro e hnd hi' hlen heq hei
  rw [List.nodup_cons] at hnd
  have hk : k < e.length := hlen k (by simp)
  have hset : ∀ y j, rv (e.set k y) j = if k = j then y else rv e j := fun y j => rv_set e k j y hk
  have hik : ¬ k = i := fun h => hi' (by simp [h])
  rw [List.map_cons, List.foldl_cons]
  obtain ⟨y, hy⟩ : ∃ y, y = cutI (rv d k) (wrap64 (wrap64 ((rv d i).f0 - loP l i) - wrap64 (hi - (rv d k).f1))) (wrap64 ((rv d i).f1 - wrap64 (lo - (rv d k).f0))) := ⟨_, rfl⟩
  have hstep : downCut l i lo hi e (Int.ofNat k) = e.set k y := by
   unfold downCut
   have e1 : rd_T74 e (Int.ofNat k) = rv d k := heq k (by simp)
   have e2 : rd_T74 e (i : Int) = rv d i := hei
   rw [e1, e2, hy]
   rfl
  rw [hstep]
  have h := ih (e.set k y) hnd.2 (fun h => hi' (List.mem_cons_of_mem _ h)) (fun j hj => by rw [List.length_set]; exact hlen j (List.mem_cons_of_mem _ hj))
   (fun j hj => by rw [hset, if_neg (fun hh : k = j => hnd.1 (by rw [hh]; exact hj))]; exact heq j (List.mem_cons_of_mem _ hj)) (by rw [hset, if_neg hik]; exact hei)
  refine ⟨fun j hj => ?_, fun j hj => ?_⟩
  ·rw [h.1 j (fun hh => hj (List.mem_cons_of_mem _ hh)), hset, if_neg (fun hh => hj (by simp [hh]))]
  ·rcases List.mem_cons.1 hj with rfl | hj'
   ·rw [h.1 j hnd.1, hset, if_pos rfl, hy]
   ·exact h.2 j hj'
structure DownAt (l : List PI) (r u : List IV) (m : Nat) (d : List IV) : Prop where
 len : d.length = l.length
 old : ∀ j, (∀ p, p < m → j ∉ kidsAt l l.length p) → rv d j = rv u j
 rng : ∀ j, j < l.length → Lo u j ≤ Lo d j ∧ Lo d j ≤ Hi d j ∧ Hi d j ≤ Hi u j
 cut : ∀ p, p < m → ∀ k ∈ kidsAt l l.length p, Lo d p - loP l p - (sm (Hi u) (kidsAt l l.length p) - Hi u k) ≤ Lo d k ∧ Hi d k ≤ Hi d p - (sm (Lo u) (kidsAt l l.length p) - Lo u k)
 sol : ∀ x, Sol (netT l) (Lo r) (Hi r) x → ∀ j, j < l.length → Lo d j ≤ x j ∧ x j ≤ Hi d j
structure UpOk (l : List PI) (r u : List IV) : Prop where
 len : u.length = l.length
 rng : ∀ j, j < l.length → 0 ≤ Lo u j ∧ Lo u j ≤ Hi u j ∧ Hi u j ≤ 1000000000 ∧ Lo r j ≤ Lo u j ∧ Hi u j ≤ Hi r j
 eq : ∀ j, j < l.length → kidsAt l l.length j ≠ [] → sm (Lo u) (kidsAt l l.length j) ≤ Lo u j ∧ Hi u j ≤ sm (Hi u) (kidsAt l l.length j) + loP l j
 sol : ∀ x, Sol (netT l) (Lo r) (Hi r) x → ∀ j, j < l.length → Lo u j ≤ x j ∧ x j ≤ Hi u j
theorem down_step (hok : okL l) (hn : l.length ≤ 200) (hk : ∀ j, j < l.length → rdK kids j = (kidsAt l l.length j).map Int.ofNat) {r u d : List IV} (hu : UpOk l r u) {i : Nat} (hi : i < l.length) (h : DownAt l r u i d) :
  DownAt l r u (i + 1) (downStep l kids d i) := by
 have hT := netT_ok hok
 have hkid : ∀ k ∈ kidsAt l l.length i, i < k ∧ k < l.length := fun k hk' => hT.lt i k hk'
 have hold : ∀ k ∈ kidsAt l l.length i, rv d k = rv u k := fun k hk' => h.old k (fun p hp hm => by have := hT.one i p k hk' hm; omega)
 have hLk : ∀ k ∈ kidsAt l l.length i, Lo d k = Lo u k := fun k hk' => by simp only [Lo, hold k hk']
 have hHk : ∀ k ∈ kidsAt l l.length i, Hi d k = Hi u k := fun k hk' => by simp only [Hi, hold k hk']
 have hL : totalF S74.f0 ((kidsAt l l.length i).map (fun k => rv d k)) = sm (Lo u) (kidsAt l l.length i) := by
  rw [total_eq _ _ _ (Nat.le_trans (kids_len l i) hn) (fun k hk' => by have h1 := hu.rng k (hkid k hk').2; have h2 := hold k hk'; simp only [Lo, Hi, h2] at *; omega)]
  exact sm_congr hLk
 have hH : totalF S74.f1 ((kidsAt l l.length i).map (fun k => rv d k)) = sm (Hi u) (kidsAt l l.length i) := by
  rw [total_eq _ _ _ (Nat.le_trans (kids_len l i) hn) (fun k hk' => by have h1 := hu.rng k (hkid k hk').2; have h2 := hold k hk'; simp only [Lo, Hi, h2] at *; omega)]
  exact sm_congr hHk
 have bH := sm_bound (f := Hi u) (ks := kidsAt l l.length i) (a := 0) (b := 1000000000) (fun k hk' => by have := hu.rng k (hkid k hk').2; omega)
 have bL := sm_bound (f := Lo u) (ks := kidsAt l l.length i) (a := 0) (b := 1000000000) (fun k hk' => by have := hu.rng k (hkid k hk').2; omega)
 have bl := kids_len l i
 have bo := (hok i hi).2.2.1
 have hinot : i ∉ kidsAt l l.length i := fun hm => by have := hkid i hm; omega
 have hun : downStep l kids d i = ((kidsAt l l.length i).map Int.ofNat).foldl (downCut l i (sm (Lo u) (kidsAt l l.length i)) (sm (Hi u) (kidsAt l l.length i))) d := by
  unfold downStep
  rw [below_eq hk d i hi, hL, hH, hk i hi]
 have hc := cuts (l := l) i (sm (Lo u) (kidsAt l l.length i)) (sm (Hi u) (kidsAt l l.length i)) d (kidsAt l l.length i) d (hT.nodup i) hinot (fun k hk' => by rw [h.len]; exact (hkid k hk').2) (fun _ _ => rfl) rfl
 rw [← hun] at hc
 obtain ⟨e, he⟩ : ∃ e, e = downStep l kids d i := ⟨_, rfl⟩
 rw [← he] at hc ⊢
 have elen : e.length = l.length := by rw [he, downStep_len, h.len]
 have hri := h.rng i hi
 have hui := hu.rng i hi
 have hnew : ∀ k ∈ kidsAt l l.length i, Lo e k = max (Lo u k) (Lo d i - loP l i - (sm (Hi u) (kidsAt l l.length i) - Hi u k)) ∧ Hi e k = min (Hi u k) (Hi d i - (sm (Lo u) (kidsAt l l.length i) - Lo u k)) ∧ Lo e k ≤ Hi e k := by
  intro k hk'
  have h1 := hc.2 k hk'
  have h2 := hu.rng k (hkid k hk').2
  have h3 := hu.eq i hi (fun hh => by rw [hh] at hk'; cases hk')
  obtain ⟨a, b, hab, hlo⟩ := sm_split (Lo u) hk'
  have hhi : sm (Hi u) (kidsAt l l.length i) = Hi u k + sm (Hi u) (a ++ b) := by rw [hab, sm_append, sm_append, sm_cons]; omega
  have hle : sm (Lo u) (a ++ b) ≤ sm (Hi u) (a ++ b) := sm_le (fun j hj => by
   have hj' : j ∈ kidsAt l l.length i := by
    rw [hab]
    rcases List.mem_append.1 hj with h' | h'
    ·exact List.mem_append.2 (.inl h')
    ·exact List.mem_append.2 (.inr (List.mem_cons_of_mem _ h'))
   have := hu.rng j (hkid j hj').2
   omega)
  have e0 : Lo e k = max (Lo u k) (Lo d i - loP l i - (sm (Hi u) (kidsAt l l.length i) - Hi u k)) := by
   have := congrArg S74.f0 h1
   rw [cutI_f0] at this
   have w1 : (rv d k).f1 = Hi u k := hHk k hk'
   have w2 : (rv d k).f0 = Lo u k := hLk k hk'
   have w3 : (rv d i).f0 = Lo d i := rfl
   rw [w1, w2, w3, wrap_id (n := Lo d i - loP l i) (by omega) (by omega), wrap_id (n := sm (Hi u) (kidsAt l l.length i) - Hi u k) (by omega) (by omega), wrap_id (by omega) (by omega)] at this
   exact this
  have e1 : Hi e k = min (Hi u k) (Hi d i - (sm (Lo u) (kidsAt l l.length i) - Lo u k)) := by
   have := congrArg S74.f1 h1
   rw [cutI_f1] at this
   have w1 : (rv d k).f1 = Hi u k := hHk k hk'
   have w2 : (rv d k).f0 = Lo u k := hLk k hk'
   have w3 : (rv d i).f1 = Hi d i := rfl
   rw [w1, w2, w3, wrap_id (n := sm (Lo u) (kidsAt l l.length i) - Lo u k) (by omega) (by omega), wrap_id (by omega) (by omega)] at this
   exact this
  refine ⟨e0, e1, ?_⟩
  omega
 have hsame : ∀ j, j ∉ kidsAt l l.length i → Lo e j = Lo d j ∧ Hi e j = Hi d j := fun j hj => by
  have := hc.1 j hj
  exact ⟨by simp only [Lo, this], by simp only [Hi, this]⟩
 refine ⟨elen, fun j hj => ?_, fun j hj => ?_, fun p hp k hk' => ?_, fun x hx j hj => ?_⟩
 ·rw [hc.1 j (hj i (by omega))]
  exact h.old j (fun p hp => hj p (by omega))
 ·by_cases hm : j ∈ kidsAt l l.length i
  ·have := hnew j hm
   omega
  ·have := hsame j hm
   have := h.rng j hj
   omega
 ·have hpi : p ∉ kidsAt l l.length i := fun hm => by have := (hkid p hm).1; omega
  have hp' := hsame p hpi
  by_cases h' : p < i
  ·have hki : k ∉ kidsAt l l.length i := fun hm => by have := hT.one i p k hm hk'; omega
   have := hsame k hki
   have := h.cut p h' k hk'
   omega
  ·have e2 : p = i := by omega
   subst e2
   have := hnew k hk'
   omega
 ·by_cases hm : j ∈ kidsAt l l.length i
  ·have h1 := hnew j hm
   have h2 := h.sol x hx i hi
   have h3 := hu.sol x hx j hj
   have hne : kidsAt l l.length i ≠ [] := fun hh => by rw [hh] at hm; cases hm
   have h4 := hx.2 i hi hne
   simp only [netT] at h4
   obtain ⟨a, b, hab, hlo⟩ := sm_split (Lo u) hm
   have hhi : sm (Hi u) (kidsAt l l.length i) = Hi u j + sm (Hi u) (a ++ b) := by rw [hab, sm_append, sm_append, sm_cons]; omega
   have hxx : sm x (kidsAt l l.length i) = x j + sm x (a ++ b) := by rw [hab, sm_append, sm_append, sm_cons]; omega
   have hmem : ∀ q ∈ a ++ b, q < l.length := fun q hq => (hkid q (by
    rw [hab]
    rcases List.mem_append.1 hq with h' | h'
    ·exact List.mem_append.2 (.inl h')
    ·exact List.mem_append.2 (.inr (List.mem_cons_of_mem _ h')))).2
   have l1 : sm (Lo u) (a ++ b) ≤ sm x (a ++ b) := sm_le (fun q hq => (hu.sol x hx q (hmem q hq)).1)
   have l2 : sm x (a ++ b) ≤ sm (Hi u) (a ++ b) := sm_le (fun q hq => (hu.sol x hx q (hmem q hq)).2)
   omega
  ·have := hsame j hm
   have := h.sol x hx j hj
   omega
theorem down_fold (hok : okL l) (hn : l.length ≤ 200) (hk : ∀ j, j < l.length → rdK kids j = (kidsAt l l.length j).map Int.ofNat) {r u : List IV} (hu : UpOk l r u) :
  ∀ m, m ≤ l.length → DownAt l r u m ((List.range m).foldl (fun r (j : Nat) => downStep l kids r j) u) := by
 intro m
 induction m with
 | zero => intro _; exact ⟨hu.len, fun _ _ => rfl, fun j hj => by have := hu.rng j hj; simp only [List.range_zero, List.foldl_nil]; omega, fun p hp => absurd hp (Nat.not_lt_zero _), hu.sol⟩
 | succ m ih =>
  intro hm
  rw [foldl_range_succ]
  exact down_step hok hn hk hu (by omega) (ih (by omega))
structure Exact (l : List PI) (lo hi : Nat → Int) (d : List IV) : Prop where
 len : d.length = l.length
 rng : ∀ j, j < l.length → 0 ≤ Lo d j ∧ Lo d j ≤ Hi d j ∧ Hi d j ≤ 1000000000 ∧ lo j ≤ Lo d j ∧ Hi d j ≤ hi j
 sol : ∀ x, Sol (netT l) lo hi x → ∀ j, j < l.length → Lo d j ≤ x j ∧ x j ≤ Hi d j
 had : ∀ j, j < l.length → ∀ v, Lo d j ≤ v → v ≤ Hi d j → ∃ x, Sol (netT l) lo hi x ∧ x j = v
theorem any_empty (u : List IV) : u.any emptyI = true ↔ ∃ j, j < u.length ∧ Hi u j < Lo u j := by
 rw [List.any_eq_true]
 constructor
 ·rintro ⟨x, hx, he⟩
  obtain ⟨j, hj, rfl⟩ := List.mem_iff_getElem.1 hx
  refine ⟨j, hj, ?_⟩
  simp only [emptyI, decide_eq_true_eq] at he
  simp only [Lo, Hi, rv, rd_T74, Int.toNat_natCast, List.getD_eq_getElem?_getD, List.getElem?_eq_getElem hj, Option.getD_some]
  omega
 ·rintro ⟨j, hj, h⟩
  refine ⟨u[j], List.getElem_mem hj, ?_⟩
  simp only [Lo, Hi, rv, rd_T74, Int.toNat_natCast, List.getD_eq_getElem?_getD, List.getElem?_eq_getElem hj, Option.getD_some] at h
  simp only [emptyI, decide_eq_true_eq]
  omega
theorem boundsF_spec (hok : okL l) (hn : l.length ≤ 200) (hk : ∀ j, j < l.length → rdK kids j = (kidsAt l l.length j).map Int.ofNat) {r : List IV} (hl : r.length = l.length) (hv : Vol l.length (Lo r) (Hi r)) :
  ((boundsF l kids r).1 = false ∧ ¬ ∃ x, Sol (netT l) (Lo r) (Hi r) x) ∨ ((boundsF l kids r).1 = true ∧ Exact l (Lo r) (Hi r) (boundsF l kids r).2) := by
 have h := up_spec hok hn hk hl hv
 unfold boundsF
 rcases h.now with ⟨⟨j, h1, h2, h3⟩, hs⟩ | ⟨ha, hs⟩
 ·rw [if_pos ((any_empty _).2 ⟨j, by rw [h.len]; exact h2, h3⟩)]
  exact .inl ⟨rfl, hs⟩
 ·have hno : ¬ (upF l kids r).any emptyI = true := fun hh => by
   obtain ⟨j, hj, h3⟩ := (any_empty _).1 hh
   rw [h.len] at hj
   have := (ha j (Nat.zero_le _) hj).1
   omega
  rw [if_neg hno]
  have hu : UpOk l r (upF l kids r) := ⟨h.len, fun j hj => (ha j (Nat.zero_le _) hj).1, fun j hj => (ha j (Nat.zero_le _) hj).2, fun x hx j hj => hs x hx j (Nat.zero_le _) hj⟩
  have hd := down_fold hok hn hk hu l.length (Nat.le_refl _)
  have hd' : DownAt l r (upF l kids r) l.length (downF l kids (upF l kids r)) := hd
  have hno2 : ¬ (downF l kids (upF l kids r)).any emptyI = true := fun hh => by
   obtain ⟨j, hj, h3⟩ := (any_empty _).1 hh
   rw [hd'.len] at hj
   have := hd'.rng j hj
   omega
  rw [if_neg hno2]
  refine .inr ⟨rfl, hd'.len, fun j hj => ?_, hd'.sol, fun j hj v h1 h2 => ?_⟩
  ·have := hd'.rng j hj
   have := hu.rng j hj
   dsimp only
   omega
  ·obtain ⟨x, hx, hxv⟩ := exact (netT l) (netT_ok hok) (Lo (upF l kids r)) (Hi (upF l kids r)) (Lo (downF l kids (upF l kids r))) (Hi (downF l kids (upF l kids r))) (fun i hi => (hu.rng i hi).2.1) (fun i hi hne => hu.eq i hi hne)
    (fun i hi => hd'.rng i hi) (fun i hi k hk' => hd'.cut i hi k hk') j hj v h1 h2
   exact ⟨x, ⟨fun i hi => by have := hx.1 i hi; have := hu.rng i hi; omega, hx.2⟩, hxv⟩
end
end Go.Proofs.Ytolmjhpapidmhaa.P
end
section
namespace Go.Proofs.Ytolmjhpapidmhaa.P
open Go.RowKit Go.Proofs.YtolmjhpapidmhaaW.PrintWords Go.Proofs.YtolmjhpapidmhaaW.PrintLast Go.Proofs.YtolmjhpapidmhaaW.PrintMore Go.Proofs.YtolmjhpapidmhaaH Go.Proofs.FlowTree
open Classical
def Ev {α : Type} (f : Nat → Option α) (r : α) : Prop := ∃ k0, ∀ k, k0 ≤ k → f k = some r
theorem Ev.step {α : Type} {f : Nat → Option α} {r : α} (h : Ev (fun k => f (k + 1)) r) : Ev f r := by
 obtain ⟨k0, h⟩ := h
 refine ⟨k0 + 1, fun k hk => ?_⟩
 obtain ⟨k, rfl⟩ : ∃ m, k = m + 1 := ⟨k - 1, by omega⟩
 exact h k (by omega)
theorem Ev.pure {α : Type} (r : α) : Ev (fun _ => some r) r := ⟨0, fun _ _ => rfl⟩
theorem Ev.bnd {α β : Type} {f : Nat → Option β} {g : β → Nat → Option α} {b : β} {r : α} (hf : Ev f b) (hg : Ev (g b) r) : Ev (fun k => (f k).bind fun t => g t k) r := by
 obtain ⟨k0, h⟩ := hf
 obtain ⟨k1, h1⟩ := hg
 refine ⟨max k0 k1, fun k hk => ?_⟩
 show (f k).bind _ = _
 rw [h k (by omega)]
 exact h1 k (by omega)
theorem Ev.congr {α : Type} {f g : Nat → Option α} {r : α} (h : ∀ k, f k = g k) (hg : Ev g r) : Ev f r := by
 obtain ⟨k0, h0⟩ := hg
 exact ⟨k0, fun k hk => (h k).trans (h0 k hk)⟩
theorem wrap_nat {n : Nat} (h : n ≤ 140737488355328) : wrap64 ((n : Int) + 1) = ((n + 1 : Nat) : Int) := by unfold wrap64; omega
abbrev RG := S46
theorem idP_take (l : List PI) (m j : Nat) (h : j < m) : idP (l.take m) j = idP l j := by
 simp only [idP, rd_T44, Int.toNat_natCast, List.getD_eq_getElem?_getD, List.getElem?_take, if_pos h]
theorem at_l0 (l : List PI) (a : Int) (hB : l.length ≤ 140737488355328) : ∀ (d i : Nat), i + d = l.length → ∃ v : Int, Ev (fun k => cohousingref28_At.l0 k l a (i : Int)) v ∧ (v < 0 ↔ ∀ j, i ≤ j → j < l.length → idP l j ≠ a) := by
 intro d
 induction d with
 | zero =>
  intro i hi
  have h1 : ¬ ((i : Int) < (l.length : Int)) := by omega
  refine ⟨-1, Ev.step ?_, ⟨fun _ j h2 h3 => by omega, fun _ => by omega⟩⟩
  simp only [cohousingref28_At.l0, h1, if_false]
  exact Ev.pure _
 | succ d ih =>
  intro i hi
  have h1 : ((i : Int) < (l.length : Int)) := by omega
  have h2 : (0 : Int) ≤ (i : Int) := by omega
  by_cases he : (rd_T44 l (i : Int)).f0 = a
  ·refine ⟨(i : Int), Ev.step ?_, ⟨fun h => by omega, fun h => absurd he (h i (Nat.le_refl _) (by omega))⟩⟩
   simp only [cohousingref28_At.l0, h1, h2, he, if_true]
   exact Ev.pure _
  ·obtain ⟨v, hv, hs⟩ := ih (i + 1) (by omega)
   refine ⟨v, Ev.step ?_, ?_⟩
   ·simp only [cohousingref28_At.l0, h1, h2, he, if_true, if_false, wrap_nat (show i ≤ 140737488355328 by omega)]
    exact hv
   ·rw [hs]
    constructor
    ·intro h j h3 h4
     by_cases e : j = i
     ·subst e; exact he
     ·exact h j (by omega) h4
    ·intro h j h3 h4
     exact h j (by omega) h4
theorem at_f (l : List PI) (a : Int) (hB : l.length ≤ 140737488355328) : ∃ v : Int, Ev (fun k => cohousingref28_At.f k l a) v ∧ (v < 0 ↔ ∀ j, j < l.length → idP l j ≠ a) := by
 obtain ⟨v, hv, hs⟩ := at_l0 l a hB l.length 0 (by omega)
 exact ⟨v, hv, hs.trans ⟨fun h j hj => h j (Nat.zero_le _) hj, fun h j _ hj => h j hj⟩⟩
theorem volume_dec (n : Int) : cohousingref28_Volume.f n = some (decide (0 ≤ n ∧ n ≤ 1000000000)) := by
 unfold cohousingref28_Volume.f
 (repeat' split) <;> simp_all <;> omega
theorem valid_j1 (l : List PI) (hB : l.length ≤ 140737488355328) (i : Nat) (hi : i < l.length) (b R : Bool) (hb : b = decide (¬ (1 ≤ idP l i ∧ (0 < i → idP l (i - 1) < idP l i) ∧ (0 ≤ loP l i ∧ loP l i ≤ 1000000000))))
  (hyes : okP l i → Ev (fun k => cohousingref28_Valid.l0 k l ((i + 1 : Nat) : Int)) R) (hno : ¬ okP l i → R = false) : Ev (fun k => cohousingref28_Valid.j1 k l (i : Int) b) R := by
 refine Ev.step ?_
 have h1 : ((i : Int) < (l.length : Int)) := by omega
 have h2 : (0 : Int) ≤ (i : Int) := by omega
 have h3 : ((i : Int) ≤ (l.length : Int)) := by omega
 cases b with
 | true =>
  have hbad := of_decide_eq_true hb.symm
  rw [hno (fun h => hbad ⟨h.1, h.2.1, h.2.2.1⟩)]
  simp only [cohousingref28_Valid.j1, if_true]
  exact Ev.pure _
 | false =>
  have hgood := Decidable.not_not.1 (of_decide_eq_false hb.symm)
  simp only [cohousingref28_Valid.j1, h1, h2, h3, if_true, Bool.false_eq_true, if_false, wrap_nat (show i ≤ 140737488355328 by omega), Int.toNat_natCast]
  by_cases ha : (rd_T44 l (i : Int)).f1 = 0
  ·simp only [ha, if_true]
   exact hyes ⟨hgood.1, hgood.2.1, hgood.2.2, fun h => absurd ha h⟩
  ·simp only [ha, if_false]
   have hlen : (l.take i).length = i := by rw [List.length_take]; omega
   obtain ⟨v, hv, hs⟩ := at_f (l.take i) (rd_T44 l (i : Int)).f1 (by omega)
   refine Ev.bnd hv ?_
   rw [hlen] at hs
   by_cases hv0 : v < 0
   ·simp only [hv0, if_true]
    have h4 := hs.1 hv0
    rw [hno (fun h => by
     obtain ⟨j, hj, e⟩ := h.2.2.2 ha
     exact h4 j hj ((idP_take l i j hj).trans e))]
    exact Ev.pure _
   ·simp only [hv0, if_false]
    refine hyes ⟨hgood.1, hgood.2.1, hgood.2.2, fun _ => ?_⟩
    by_cases hex : ∃ j, j < i ∧ idP l j = abP l i
    ·exact hex
    ·refine absurd (hs.2 (fun j hj e => hex ⟨j, hj, ?_⟩)) hv0
     rw [idP_take l i j hj] at e
     exact e
theorem valid_l0 (l : List PI) (hB : l.length ≤ 140737488355328) : ∀ (d i : Nat), i + d = l.length → Ev (fun k => cohousingref28_Valid.l0 k l (i : Int)) (decide (∀ j, i ≤ j → j < l.length → okP l j) && decide (l.length ≤ 200)) := by
 intro d
 induction d with
 | zero =>
  intro i hi
  have h1 : ¬ ((i : Int) < (l.length : Int)) := by omega
  refine Ev.step ?_
  simp only [cohousingref28_Valid.l0, h1, if_false]
  rw [decide_eq_true (show ∀ j, i ≤ j → j < l.length → okP l j from fun j h2 h3 => by omega), Bool.true_and]
  rw [show decide ((l.length : Int) ≤ 200) = decide (l.length ≤ 200) from decide_eq_decide.2 (by omega)]
  exact Ev.pure _
 | succ d ih =>
  intro i hi
  have h1 : ((i : Int) < (l.length : Int)) := by omega
  have h2 : (0 : Int) ≤ (i : Int) := by omega
  obtain ⟨R, hR⟩ : ∃ R, R = (decide (∀ j, i ≤ j → j < l.length → okP l j) && decide (l.length ≤ 200)) := ⟨_, rfl⟩
  rw [← hR]
  have hyes : okP l i → Ev (fun k => cohousingref28_Valid.l0 k l ((i + 1 : Nat) : Int)) R := fun ho => by
   have e : decide (∀ j, i ≤ j → j < l.length → okP l j) = decide (∀ j, i + 1 ≤ j → j < l.length → okP l j) := decide_eq_decide.2 ⟨fun h j h3 h4 => h j (by omega) h4, fun h j h3 h4 => by
    by_cases e : j = i
    ·subst e; exact ho
    ·exact h j (by omega) h4⟩
   rw [hR, e]
   exact ih (i + 1) (by omega)
  have hno : ¬ okP l i → R = false := fun hn => by
   rw [hR, decide_eq_false (fun h => hn (h i (Nat.le_refl _) (by omega))), Bool.false_and]
  refine Ev.step ?_
  simp only [cohousingref28_Valid.l0, h1, h2, if_true]
  by_cases c1 : (rd_T44 l (i : Int)).f0 < 1
  ·simp only [c1, if_true]
   exact valid_j1 l hB i (by omega) true R (by symm; apply decide_eq_true; intro h; have := h.1; simp only [idP] at this; omega) hyes hno
  ·simp only [c1, if_false]
   by_cases c2 : (i : Int) > 0
   ·have e : wrap64 ((i : Int) - 1) = ((i - 1 : Nat) : Int) := by unfold wrap64; omega
    have h3 : (0 : Int) ≤ ((i - 1 : Nat) : Int) := by omega
    have h4 : (((i - 1 : Nat) : Int) < (l.length : Int)) := by omega
    simp only [c2, if_true, e, h3, h4]
    by_cases c3 : (rd_T44 l (i : Int)).f0 ≤ (rd_T44 l ((i - 1 : Nat) : Int)).f0
    ·simp only [c3, if_true]
     exact valid_j1 l hB i (by omega) true R (by symm; apply decide_eq_true; intro h; have := h.2.1 (by omega); simp only [idP] at this; omega) hyes hno
    ·simp only [c3, if_false, volume_dec, Option.bind_some]
     refine valid_j1 l hB i (by omega) _ R ?_ hyes hno
     rw [← decide_not]
     apply decide_eq_decide.2
     simp only [idP, loP]
     constructor
     ·intro h h'; exact h h'.2.2
     ·intro h h'; exact h ⟨by omega, fun _ => by omega, h'⟩
   ·simp only [c2, if_false, volume_dec, Option.bind_some]
    refine valid_j1 l hB i (by omega) _ R ?_ hyes hno
    rw [← decide_not]
    apply decide_eq_decide.2
    simp only [idP, loP]
    constructor
    ·intro h h'; exact h h'.2.2
    ·intro h h'; exact h ⟨by omega, fun h0 => by omega, h'⟩
theorem valid_f (l : List PI) (hB : l.length ≤ 140737488355328) : Ev (fun k => cohousingref28_Valid.f k l) (decide (okL l ∧ l.length ≤ 200)) := by
 have := valid_l0 l hB l.length 0 (by omega)
 rw [show decide (okL l ∧ l.length ≤ 200) = (decide (∀ j, 0 ≤ j → j < l.length → okP l j) && decide (l.length ≤ 200)) from by
  rw [Bool.decide_and]
  congr 1
  exact decide_eq_decide.2 ⟨fun h j _ hj => h j hj, fun h j hj => h j (Nat.zero_le _) hj⟩]
 exact this
theorem range_split (i n : Nat) (h : i < n) : List.range n = List.range (i + 1) ++ List.range' (i + 1) (n - (i + 1)) := by
 rw [List.range_eq_range', List.range_eq_range', show n = (i + 1) + (n - (i + 1)) by omega, ← List.range'_append]
 simp
theorem kidsAt_range (l : List PI) (i : Nat) (h : i < l.length) : kidsAt l l.length i = (List.range' (i + 1) (l.length - (i + 1))).filter (fun k => decide (abP l k = idP l i)) := by
 unfold kidsAt
 rw [range_split i l.length h, List.filter_append]
 have e1 : (List.range (i + 1)).filter (fun k => decide (i < k) && decide (abP l k = idP l i)) = [] := by
  rw [List.filter_eq_nil_iff]
  intro k hk
  have := List.mem_range.1 hk
  simp; omega
 rw [e1, List.nil_append]
 apply List.filter_congr
 intro k hk
 have := List.mem_range'.1 hk
 obtain ⟨j, hj, e⟩ := this
 rw [decide_eq_true (show i < k by omega), Bool.true_and]
theorem below_l0' (l : List PI) (hB : l.length ≤ 200) (i : Nat) (hi : i < l.length) : ∀ (d x : Nat) (acc : List Int), x + d = l.length → acc.length ≤ x →
  Ev (fun k => cohousingref28_below.l0 k l (i : Int) acc (x : Int)) (acc ++ ((List.range' x d).filter (fun k => decide (abP l k = idP l i))).map Int.ofNat) := by
 intro d
 induction d with
 | zero =>
  intro x acc hx _
  have h1 : ¬ ((x : Int) < (l.length : Int)) := by omega
  refine Ev.step ?_
  simp only [cohousingref28_below.l0, h1, if_false, List.range'_zero, List.filter_nil, List.map_nil, List.append_nil]
  exact Ev.pure _
 | succ d ih =>
  intro x acc hx ha
  have h1 : ((x : Int) < (l.length : Int)) := by omega
  have h2 : (0 : Int) ≤ (x : Int) := by omega
  have h3 : (0 : Int) ≤ (i : Int) := by omega
  have h4 : ((i : Int) < (l.length : Int)) := by omega
  refine Ev.step ?_
  rw [List.range'_succ]
  by_cases hc : (rd_T44 l (x : Int)).f1 = (rd_T44 l (i : Int)).f0
  ·have h5 : acc.length < 17592186044416 := by omega
   ·simp only [cohousingref28_below.l0, h1, h2, h3, h4, h5, hc, if_true, wrap_nat (show x ≤ 140737488355328 by omega)]
    rw [List.filter_cons_of_pos (by simpa using hc)]
    have := ih (x + 1) (acc ++ [(x : Int)]) (by omega) (by simp; omega)
    rw [List.append_assoc] at this
    exact this
  ·simp only [cohousingref28_below.l0, h1, h2, h3, h4, hc, if_true, if_false, wrap_nat (show x ≤ 140737488355328 by omega)]
   rw [List.filter_cons_of_neg (by simpa using hc)]
   exact ih (x + 1) acc (by omega) (by omega)
theorem below_f' (l : List PI) (hB : l.length ≤ 200) (i : Nat) (hi : i < l.length) : Ev (fun k => cohousingref28_below.f k l (i : Int)) ((kidsAt l l.length i).map Int.ofNat) := by
 have := below_l0' l hB i hi (l.length - (i + 1)) (i + 1) [] (by omega) (by simp)
 rw [kidsAt_range l i hi]
 unfold cohousingref28_below.f
 rw [wrap_nat (by omega)]
 rw [List.nil_append] at this
 exact this
abbrev rr (r : List RG) (i : Nat) : RG := rd_T46 r i
theorem rv_toI (r : List RG) (i : Nat) : rv (r.map toI) i = toI (rr r i) := by
 simp only [rv, rr, rd_T74, rd_T46, Int.toNat_natCast, List.getD_eq_getElem?_getD, List.getElem?_map]
 cases r[i]? <;> rfl
theorem Lo_toI (r : List RG) (i : Nat) : Lo (r.map toI) i = (rr r i).f0 := by unfold Lo; rw [rv_toI]; rfl
theorem Hi_toI (r : List RG) (i : Nat) : Hi (r.map toI) i = (rr r i).f1 := by unfold Hi; rw [rv_toI]; rfl
theorem empty_l0 (r : List RG) (hB : r.length ≤ 140737488355328) : ∀ (d i : Nat), i + d = r.length → Ev (fun k => cohousingref28_empty.l0 k r (i : Int)) (decide (∃ j, i ≤ j ∧ j < r.length ∧ (rr r j).f1 < (rr r j).f0)) := by
 intro d
 induction d with
 | zero =>
  intro i hi
  have h1 : ¬ ((i : Int) < (r.length : Int)) := by omega
  refine Ev.step ?_
  simp only [cohousingref28_empty.l0, h1, if_false]
  rw [decide_eq_false (by rintro ⟨j, h2, h3, _⟩; omega)]
  exact Ev.pure _
 | succ d ih =>
  intro i hi
  have h1 : ((i : Int) < (r.length : Int)) := by omega
  have h2 : (0 : Int) ≤ (i : Int) := by omega
  refine Ev.step ?_
  by_cases hc : (rd_T46 r (i : Int)).f0 > (rd_T46 r (i : Int)).f1
  ·simp only [cohousingref28_empty.l0, h1, h2, hc, if_true]
   rw [decide_eq_true ⟨i, Nat.le_refl _, by omega, hc⟩]
   exact Ev.pure _
  ·simp only [cohousingref28_empty.l0, h1, h2, hc, if_true, if_false, wrap_nat (show i ≤ 140737488355328 by omega)]
   have := ih (i + 1) (by omega)
   rw [show decide (∃ j, i ≤ j ∧ j < r.length ∧ (rr r j).f1 < (rr r j).f0) = decide (∃ j, i + 1 ≤ j ∧ j < r.length ∧ (rr r j).f1 < (rr r j).f0) from decide_eq_decide.2 ⟨fun ⟨j, h3, h4, h5⟩ => ⟨j, by
    by_cases e : j = i
    ·subst e; exact absurd h5 hc
    ·omega, h4, h5⟩, fun ⟨j, h3, h4, h5⟩ => ⟨j, by omega, h4, h5⟩⟩]
   exact this
theorem empty_f (r : List RG) (hB : r.length ≤ 140737488355328) : Ev (fun k => cohousingref28_empty.f k r) (decide (∃ j, j < r.length ∧ (rr r j).f1 < (rr r j).f0)) := by
 have := empty_l0 r hB r.length 0 (by omega)
 rw [show decide (∃ j, j < r.length ∧ (rr r j).f1 < (rr r j).f0) = decide (∃ j, 0 ≤ j ∧ j < r.length ∧ (rr r j).f1 < (rr r j).f0) from decide_eq_decide.2 ⟨fun ⟨j, h⟩ => ⟨j, Nat.zero_le _, h⟩, fun ⟨j, _, h⟩ => ⟨j, h⟩⟩]
 exact this
theorem same_l0 (a b : List RG) (hB : a.length ≤ 140737488355328) (hl : a.length = b.length) : ∀ (d i : Nat), i + d = a.length → Ev (fun k => cohousingref28_Same.l0 k a b (i : Int)) (decide (∀ j, i ≤ j → j < a.length → rr a j = rr b j)) := by
 intro d
 induction d with
 | zero =>
  intro i hi
  have h1 : ¬ ((i : Int) < (a.length : Int)) := by omega
  refine Ev.step ?_
  simp only [cohousingref28_Same.l0, h1, if_false]
  rw [decide_eq_true (fun j h2 h3 => by omega)]
  exact Ev.pure _
 | succ d ih =>
  intro i hi
  have h1 : ((i : Int) < (a.length : Int)) := by omega
  have h2 : (0 : Int) ≤ (i : Int) := by omega
  have h3 : ((i : Int) < (b.length : Int)) := by omega
  refine Ev.step ?_
  by_cases hc : rr a i = rr b i
  ·have hc' : (!(((rd_T46 a (i : Int)).f0) == ((rd_T46 b (i : Int)).f0)) || (!(((rd_T46 a (i : Int)).f1) == ((rd_T46 b (i : Int)).f1)))) = false := by
    have : rd_T46 a (i : Int) = rd_T46 b (i : Int) := hc
    rw [this]; simp
   simp only [cohousingref28_Same.l0, h1, h2, h3, hc', if_true, if_false, Bool.false_eq_true, wrap_nat (show i ≤ 140737488355328 by omega)]
   have := ih (i + 1) (by omega)
   rw [show decide (∀ j, i ≤ j → j < a.length → rr a j = rr b j) = decide (∀ j, i + 1 ≤ j → j < a.length → rr a j = rr b j) from decide_eq_decide.2 ⟨fun h j h4 h5 => h j (by omega) h5, fun h j h4 h5 => by
    by_cases e : j = i
    ·subst e; exact hc
    ·exact h j (by omega) h5⟩]
   exact this
  ·have hc' : (!(((rd_T46 a (i : Int)).f0) == ((rd_T46 b (i : Int)).f0)) || (!(((rd_T46 a (i : Int)).f1) == ((rd_T46 b (i : Int)).f1)))) = true := by
    rw [Bool.or_eq_true, Bool.not_eq_true', Bool.not_eq_true', beq_eq_false_iff_ne, beq_eq_false_iff_ne]
    by_cases h4 : (rd_T46 a (i : Int)).f0 = (rd_T46 b (i : Int)).f0
    ·refine .inr (fun h5 => hc ?_)
     show rd_T46 a (i : Int) = rd_T46 b (i : Int)
     cases ha : rd_T46 a (i : Int)
     cases hb : rd_T46 b (i : Int)
     rw [ha, hb] at h4 h5
     simp only at h4 h5
     rw [h4, h5]
    ·exact .inl h4
   simp only [cohousingref28_Same.l0, h1, h2, h3, hc', if_true]
   rw [decide_eq_false (fun h => hc (h i (Nat.le_refl _) (by omega)))]
   exact Ev.pure _
theorem rr_ext {a b : List RG} (hl : a.length = b.length) (h : ∀ j, j < a.length → rr a j = rr b j) : a = b := by
 apply List.ext_getElem hl
 intro i h1 h2
 have := h i h1
 simp only [rr, rd_T46, Int.toNat_natCast, List.getD_eq_getElem?_getD, List.getElem?_eq_getElem h1, List.getElem?_eq_getElem h2, Option.getD_some] at this
 exact this
theorem same_f (a b : List RG) (hB : a.length ≤ 140737488355328) : Ev (fun k => cohousingref28_Same.f k a b) (decide (a = b)) := by
 unfold cohousingref28_Same.f
 by_cases hl : a.length = b.length
 ·have h1 : (a.length : Int) = (b.length : Int) := by omega
  simp only [h1, if_true]
  have := same_l0 a b hB hl a.length 0 (by omega)
  rw [show decide (a = b) = decide (∀ j, 0 ≤ j → j < a.length → rr a j = rr b j) from decide_eq_decide.2 ⟨fun h j _ _ => by rw [h], fun h => rr_ext hl (fun j hj => h j (Nat.zero_le _) hj)⟩]
  exact this
 ·have h1 : ¬ (a.length : Int) = (b.length : Int) := by omega
  simp only [h1, if_false]
  rw [decide_eq_false (fun h => hl (by rw [h]))]
  exact Ev.pure _
end Go.Proofs.Ytolmjhpapidmhaa.P
end
section
namespace Go.Proofs.Ytolmjhpapidmhaa.P
open Go.RowKit Go.Proofs.YtolmjhpapidmhaaW.PrintWords Go.Proofs.YtolmjhpapidmhaaW.PrintLast Go.Proofs.YtolmjhpapidmhaaW.PrintMore Go.Proofs.YtolmjhpapidmhaaH Go.Proofs.FlowTree
open Classical
def lo9 (r : List RG) (j : Nat) : Int := (rr r j).f0
def hi9 (r : List RG) (j : Nat) : Int := (rr r j).f1
theorem mx_max (a b : Int) : mx a b = max a b := by unfold mx; split <;> omega
theorem mn_min (a b : Int) : mn a b = min a b := by unfold mn; split <;> omega
section
variable (l : List PI) (r : List RG) (i : Nat)
def sL : Int := sm (lo9 r) (kidsAt l l.length i)
def sH : Int := sm (hi9 r) (kidsAt l l.length i)
def ownA : Int := max (lo9 r i) (sL l r i)
def ownB : Int := min (hi9 r i) (sH l r i + loP l i)
def eqAt (j : Nat) : RG :=
 if j = i then ⟨ownA l r i, ownB l r i⟩ else
 if i < j ∧ abP l j = idP l i then ⟨max (lo9 r j) (ownA l r i - loP l i - (sH l r i - hi9 r j)), min (hi9 r j) (ownB l r i - (sL l r i - lo9 r j))⟩ else rr r j
end
theorem take_sm (f : Nat → Int) (ks : List Nat) (x : Nat) (h : x < ks.length) : sm f (ks.take (x + 1)) = sm f (ks.take x) + f ks[x] := by
 rw [List.take_succ_eq_append_getElem h, sm_append, sm_cons, sm_nil]; omega
theorem rd_ofNat (ks : List Nat) (x : Nat) (h : x < ks.length) : rd (ks.map Int.ofNat) (x : Int) = (ks[x] : Int) := by
 simp [rd, List.getD_eq_getElem?_getD, h]
theorem sm_take_le {f : Nat → Int} {ks : List Nat} {B : Int} (h : ∀ k ∈ ks, 0 ≤ f k ∧ f k ≤ B) (x : Nat) : 0 ≤ sm f (ks.take x) ∧ sm f (ks.take x) ≤ sm f ks := by
 have h1 : 0 ≤ sm f (ks.take x) := sm_nonneg (fun k hk => (h k (List.mem_of_mem_take hk)).1)
 have h2 : 0 ≤ sm f (ks.drop x) := sm_nonneg (fun k hk => (h k (List.mem_of_mem_drop hk)).1)
 have h3 : sm f ks = sm f (ks.take x) + sm f (ks.drop x) := by rw [← sm_append, List.take_append_drop]
 omega
section
variable {l : List PI} {r : List RG} {i : Nat}
theorem sums_bound (hn : l.length ≤ 200) (hv : Vol l.length (lo9 r) (hi9 r)) : (0 ≤ sL l r i ∧ sL l r i ≤ 200000000000) ∧ (0 ≤ sH l r i ∧ sH l r i ≤ 200000000000) := by
 have hk : ∀ k ∈ kidsAt l l.length i, k < l.length := fun k hk => (kidsAt_mem.1 hk).1
 have bL := sm_bound (f := lo9 r) (ks := kidsAt l l.length i) (a := 0) (b := 1000000000) (fun k hk' => by have := hv k (hk k hk'); omega)
 have bH := sm_bound (f := hi9 r) (ks := kidsAt l l.length i) (a := 0) (b := 1000000000) (fun k hk' => by have := hv k (hk k hk'); omega)
 have bl := kids_len l i
 unfold sL sH
 omega
set_option maxHeartbeats 1000000 in
theorem eq_l1 (hok : okL l) (hn : l.length ≤ 200) (hr : r.length = l.length) (hv : Vol l.length (lo9 r) (hi9 r)) (hi : i < l.length) : ∀ (d x : Nat) (acc : List RG), x + d = l.length → acc.length = x →
  Ev (fun k => cohousingref28_equation.l1 k l r (i : Int) (sL l r i) (sH l r i) acc (x : Int) (ownA l r i) (ownB l r i)) (acc ++ (List.range' x d).map (eqAt l r i)) := by
 intro d
 have hb := sums_bound (i := i) hn hv
 have hvi := hv i hi
 have hlo := (hok i hi).2.2.1
 have hoA : 0 ≤ ownA l r i ∧ ownA l r i ≤ 200000000000 := by unfold ownA; omega
 have hoB : 0 ≤ ownB l r i ∧ ownB l r i ≤ 1000000000 := by unfold ownB; omega
 induction d with
 | zero =>
  intro x acc hx _
  have h1 : ¬ ((x : Int) < (r.length : Int)) := by omega
  refine Ev.step ?_
  simp only [cohousingref28_equation.l1, h1, if_false, List.range'_zero, List.map_nil, List.append_nil]
  exact Ev.pure _
 | succ d ih =>
  intro x acc hx ha
  have h1 : ((x : Int) < (r.length : Int)) := by omega
  have h2 : (0 : Int) ≤ (x : Int) := by omega
  have h3 : ((x : Int) < (l.length : Int)) := by omega
  have h4 : (0 : Int) ≤ (i : Int) := by omega
  have h5 : ((i : Int) < (l.length : Int)) := by omega
  have h6 : acc.length < 8796093022208 := by omega
  have hw := wrap_nat (show x ≤ 140737488355328 by omega)
  have key : Ev (fun k => cohousingref28_equation.l1 k l r (i : Int) (sL l r i) (sH l r i) (acc ++ [eqAt l r i x]) ((x + 1 : Nat) : Int) (ownA l r i) (ownB l r i)) (acc ++ (List.range' x (d + 1)).map (eqAt l r i)) := by
   have := ih (x + 1) (acc ++ [eqAt l r i x]) (by omega) (by simp; omega)
   rw [List.append_assoc] at this
   rw [List.range'_succ, List.map_cons]
   exact this
  refine Ev.step ?_
  simp only [cohousingref28_equation.l1, h1, h2, h3, h4, h5, h6, if_true, hw]
  by_cases hxi : x = i
  ·have c1 : (x : Int) = (i : Int) := by rw [hxi]
   have c2 : ¬ ((i : Int) > (i : Int)) := Int.lt_irrefl _
   simp only [c1, c2, if_true, if_false]
   have e : eqAt l r i x = ⟨ownA l r i, ownB l r i⟩ := by unfold eqAt; rw [if_pos hxi]
   rw [e] at key
   exact key
  ·have c1 : ¬ (x : Int) = (i : Int) := fun h => hxi (Int.ofNat_inj.1 h)
   simp only [c1, if_false]
   by_cases hlt : i < x
   ·have c2 : ((x : Int) > (i : Int)) := Int.ofNat_lt.2 hlt
    simp only [c2, if_true]
    by_cases hab : (rd_T44 l (x : Int)).f1 = (rd_T44 l (i : Int)).f0
    ·simp only [hab, if_true, cohousingref28_narrow.f, Option.bind_some]
     have hvx := hv x (by omega)
     have e : eqAt l r i x = ⟨mx (rd_T46 r (x : Int)).f0 (wrap64 (wrap64 (ownA l r i - (rd_T44 l (i : Int)).f2) - wrap64 (sH l r i - (rd_T46 r (x : Int)).f1))), mn (rd_T46 r (x : Int)).f1 (wrap64 (ownB l r i - wrap64 (sL l r i - (rd_T46 r (x : Int)).f0)))⟩ := by
      unfold eqAt
      rw [if_neg hxi, if_pos ⟨hlt, hab⟩, mx_max, mn_min]
      have w1 : (rd_T46 r (x : Int)).f0 = lo9 r x := rfl
      have w2 : (rd_T46 r (x : Int)).f1 = hi9 r x := rfl
      have w3 : (rd_T44 l (i : Int)).f2 = loP l i := rfl
      rw [w1, w2, w3, wrap_id (n := ownA l r i - loP l i) (by omega) (by omega), wrap_id (n := sH l r i - hi9 r x) (by omega) (by omega), wrap_id (n := sL l r i - lo9 r x) (by omega) (by omega), wrap_id (by omega) (by omega), wrap_id (by omega) (by omega)]
     rw [e] at key
     exact key
    ·simp only [hab, if_false]
     have e : eqAt l r i x = ⟨(rd_T46 r (x : Int)).f0, (rd_T46 r (x : Int)).f1⟩ := by
      unfold eqAt
      rw [if_neg hxi, if_neg (fun h => hab h.2)]
     rw [e] at key
     exact key
   ·have c2 : ¬ ((x : Int) > (i : Int)) := fun h => hlt (Int.ofNat_lt.1 h)
    simp only [c2, if_false]
    have e : eqAt l r i x = ⟨(rd_T46 r (x : Int)).f0, (rd_T46 r (x : Int)).f1⟩ := by
     unfold eqAt
     rw [if_neg hxi, if_neg (fun h => hlt h.1)]
    rw [e] at key
    exact key
theorem eq_l0 (hok : okL l) (hn : l.length ≤ 200) (hr : r.length = l.length) (hv : Vol l.length (lo9 r) (hi9 r)) (hi : i < l.length) : ∀ (d x : Nat), x + d = (kidsAt l l.length i).length →
  Ev (fun k => cohousingref28_equation.l0 k l r (i : Int) ((kidsAt l l.length i).map Int.ofNat) (sm (lo9 r) ((kidsAt l l.length i).take x)) (sm (hi9 r) ((kidsAt l l.length i).take x)) (x : Int)) ((List.range l.length).map (eqAt l r i)) := by
 intro d
 have hb := sums_bound (i := i) hn hv
 have hvi := hv i hi
 have hlo := (hok i hi).2.2.1
 have hkl := kids_len l i
 have hkm : ∀ k ∈ kidsAt l l.length i, k < l.length := fun k hk => (kidsAt_mem.1 hk).1
 induction d with
 | zero =>
  intro x hx
  have h1 : ¬ ((x : Int) < (((kidsAt l l.length i).map Int.ofNat).length : Int)) := by rw [List.length_map]; omega
  have h2 : (0 : Int) ≤ (i : Int) := by omega
  have h3 : ((i : Int) < (r.length : Int)) := by omega
  have h4 : ((i : Int) < (l.length : Int)) := by omega
  refine Ev.step ?_
  rw [List.take_of_length_le (by omega)]
  simp only [cohousingref28_equation.l0, h1, h2, h3, h4, if_true, if_false, cohousingref28_narrow.f, Option.bind_some]
  have e1 : mx (rd_T46 r (i : Int)).f0 (sm (lo9 r) (kidsAt l l.length i)) = ownA l r i := by rw [mx_max]; rfl
  have e2 : mn (rd_T46 r (i : Int)).f1 (wrap64 (sm (hi9 r) (kidsAt l l.length i) + (rd_T44 l (i : Int)).f2)) = ownB l r i := by
   rw [mn_min]
   have w1 : (rd_T44 l (i : Int)).f2 = loP l i := rfl
   have w2 : sm (hi9 r) (kidsAt l l.length i) = sH l r i := rfl
   rw [w1, w2, wrap_id (by omega) (by omega)]
   rfl
  rw [e1, e2]
  have := eq_l1 hok hn hr hv hi l.length 0 [] (by omega) rfl
  rw [List.nil_append, ← List.range_eq_range'] at this
  exact this
 | succ d ih =>
  intro x hx
  have hxl : x < (kidsAt l l.length i).length := by omega
  have h1 : ((x : Int) < (((kidsAt l l.length i).map Int.ofNat).length : Int)) := by rw [List.length_map]; omega
  have h2 : (0 : Int) ≤ (x : Int) := by omega
  have hk := hkm _ (List.getElem_mem hxl)
  have h3 : (0 : Int) ≤ (((kidsAt l l.length i)[x] : Nat) : Int) := by omega
  have h4 : ((((kidsAt l l.length i)[x] : Nat) : Int) < (r.length : Int)) := by omega
  have hvk := hv _ hk
  have t1 := sm_take_le (f := lo9 r) (ks := kidsAt l l.length i) (B := 1000000000) (fun k hk' => by have := hv k (hkm k hk'); omega) (x + 1)
  have t2 := sm_take_le (f := hi9 r) (ks := kidsAt l l.length i) (B := 1000000000) (fun k hk' => by have := hv k (hkm k hk'); omega) (x + 1)
  have hb1 : sm (lo9 r) (kidsAt l l.length i) ≤ 200000000000 := hb.1.2
  have hb2 : sm (hi9 r) (kidsAt l l.length i) ≤ 200000000000 := hb.2.2
  refine Ev.step ?_
  simp only [cohousingref28_equation.l0, h1, h2, if_true, rd_ofNat _ _ hxl, h3, h4, wrap_nat (show x ≤ 140737488355328 by omega)]
  have e1 : wrap64 (sm (lo9 r) ((kidsAt l l.length i).take x) + (rd_T46 r (((kidsAt l l.length i)[x] : Nat) : Int)).f0) = sm (lo9 r) ((kidsAt l l.length i).take (x + 1)) := by
   have w1 : (rd_T46 r (((kidsAt l l.length i)[x] : Nat) : Int)).f0 = lo9 r (kidsAt l l.length i)[x] := rfl
   rw [w1, ← take_sm _ _ _ hxl, wrap_id (by omega) (by omega)]
  have e2 : wrap64 (sm (hi9 r) ((kidsAt l l.length i).take x) + (rd_T46 r (((kidsAt l l.length i)[x] : Nat) : Int)).f1) = sm (hi9 r) ((kidsAt l l.length i).take (x + 1)) := by
   have w1 : (rd_T46 r (((kidsAt l l.length i)[x] : Nat) : Int)).f1 = hi9 r (kidsAt l l.length i)[x] := rfl
   rw [w1, ← take_sm _ _ _ hxl, wrap_id (by omega) (by omega)]
  rw [e1, e2]
  exact ih (x + 1) (by omega)
theorem eq_f (hok : okL l) (hn : l.length ≤ 200) (hr : r.length = l.length) (hv : Vol l.length (lo9 r) (hi9 r)) (hi : i < l.length) :
  Ev (fun k => cohousingref28_equation.f k l r (i : Int) ((kidsAt l l.length i).map Int.ofNat)) ((List.range l.length).map (eqAt l r i)) :=
 eq_l0 hok hn hr hv hi (kidsAt l l.length i).length 0 (by omega)
theorem rr_map (f : Nat → RG) (n j : Nat) (h : j < n) : rr ((List.range n).map f) j = f j := by
 simp [rr, rd_T46, List.getD_eq_getElem?_getD, h]
end
end Go.Proofs.Ytolmjhpapidmhaa.P
end
section
namespace Go.Proofs.Ytolmjhpapidmhaa.P
open Go.RowKit Go.Proofs.YtolmjhpapidmhaaW.PrintWords Go.Proofs.YtolmjhpapidmhaaW.PrintLast Go.Proofs.YtolmjhpapidmhaaW.PrintMore Go.Proofs.YtolmjhpapidmhaaH Go.Proofs.FlowTree
open Classical
section
variable {l : List PI}
def Done (l : List PI) (r : List RG) (p : Nat) : Prop := kidsAt l l.length p ≠ [] → (sL l r p ≤ lo9 r p ∧ hi9 r p ≤ sH l r p + loP l p) ∧
 ∀ k ∈ kidsAt l l.length p, lo9 r p - loP l p - (sH l r p - hi9 r k) ≤ lo9 r k ∧ hi9 r k ≤ hi9 r p - (sL l r p - lo9 r k)
structure Narrow (l : List PI) (r e : List RG) : Prop where
 len : e.length = l.length
 rng : ∀ j, j < l.length → lo9 r j ≤ lo9 e j ∧ hi9 e j ≤ hi9 r j
 sol : ∀ x, Sol (netT l) (lo9 r) (hi9 r) x → Sol (netT l) (lo9 e) (hi9 e) x
theorem Narrow.refl {r : List RG} (h : r.length = l.length) : Narrow l r r := ⟨h, fun _ _ => ⟨Int.le_refl _, Int.le_refl _⟩, fun _ hx => hx⟩
theorem Narrow.trans {r e f : List RG} (h : Narrow l r e) (h' : Narrow l e f) : Narrow l r f :=
 ⟨h'.len, fun j hj => by have := h.rng j hj; have := h'.rng j hj; omega, fun x hx => h'.sol x (h.sol x hx)⟩
def Dead (l : List PI) (e : List RG) : Prop := ∃ j, j < l.length ∧ hi9 e j < lo9 e j
theorem vol_not_dead {e : List RG} (h : Vol l.length (lo9 e) (hi9 e)) : ¬ Dead l e := fun ⟨j, hj, hd⟩ => by have := h j hj; omega
theorem dead_no_sol {e : List RG} (h : Dead l e) : ¬ ∃ x, Sol (netT l) (lo9 e) (hi9 e) x := fun ⟨x, hx⟩ => by
 obtain ⟨j, hj, hd⟩ := h
 have := hx.1 j hj
 omega
theorem eq_step (hok : okL l) (hn : l.length ≤ 200) {r : List RG} (hr : r.length = l.length) (hv : Vol l.length (lo9 r) (hi9 r)) {i : Nat} (hi : i < l.length) (hne : kidsAt l l.length i ≠ []) :
  Narrow l r ((List.range l.length).map (eqAt l r i)) ∧ (Dead l ((List.range l.length).map (eqAt l r i)) ∨ Vol l.length (lo9 ((List.range l.length).map (eqAt l r i))) (hi9 ((List.range l.length).map (eqAt l r i)))) ∧
   (((List.range l.length).map (eqAt l r i)) = r → Done l r i) := by
 have hT := netT_ok hok
 have hvi := hv i hi
 have hlo := (hok i hi).2.2.1
 have hat : ∀ j, j < l.length → rr ((List.range l.length).map (eqAt l r i)) j = eqAt l r i j := fun j hj => rr_map _ _ j hj
 obtain ⟨e, he⟩ : ∃ e, e = (List.range l.length).map (eqAt l r i) := ⟨_, rfl⟩
 rw [← he] at hat ⊢
 have hlen : e.length = l.length := by rw [he, List.length_map, List.length_range]
 have hkid : ∀ k ∈ kidsAt l l.length i, i < k ∧ k < l.length := fun k hk' => hT.lt i k hk'
 have hkid' : ∀ k, k < l.length → (i < k ∧ abP l k = idP l i) → k ∈ kidsAt l l.length i := fun k hk h => kidsAt_mem.2 ⟨hk, h.1, h.2⟩
 have hown : lo9 e i = ownA l r i ∧ hi9 e i = ownB l r i := by
  have := hat i hi
  unfold eqAt at this
  rw [if_pos rfl] at this
  exact ⟨by unfold lo9; rw [this], by unfold hi9; rw [this]⟩
 have hk : ∀ k ∈ kidsAt l l.length i, lo9 e k = max (lo9 r k) (ownA l r i - loP l i - (sH l r i - hi9 r k)) ∧ hi9 e k = min (hi9 r k) (ownB l r i - (sL l r i - lo9 r k)) := by
  intro k hk'
  have hm := kidsAt_mem.1 hk'
  have := hat k (hkid k hk').2
  unfold eqAt at this
  rw [if_neg (by omega), if_pos ⟨hm.2.1, hm.2.2⟩] at this
  exact ⟨by unfold lo9; rw [this]; rfl, by unfold hi9; rw [this]; rfl⟩
 have hsame : ∀ j, j < l.length → j ≠ i → j ∉ kidsAt l l.length i → lo9 e j = lo9 r j ∧ hi9 e j = hi9 r j := by
  intro j hj h1 h2
  have := hat j hj
  unfold eqAt at this
  rw [if_neg h1, if_neg (fun h => h2 (hkid' j hj h))] at this
  exact ⟨by unfold lo9; rw [this], by unfold hi9; rw [this]⟩
 have hsplit : ∀ k ∈ kidsAt l l.length i, ∃ a b, sL l r i = lo9 r k + sm (lo9 r) (a ++ b) ∧ sH l r i = hi9 r k + sm (hi9 r) (a ++ b) ∧ (∀ x, sm x (kidsAt l l.length i) = x k + sm x (a ++ b)) ∧ (∀ q ∈ a ++ b, q ∈ kidsAt l l.length i) := by
  intro k hk'
  obtain ⟨a, b, hab, _⟩ := sm_split (lo9 r) hk'
  have hx : ∀ x : Nat → Int, sm x (kidsAt l l.length i) = x k + sm x (a ++ b) := fun x => by rw [hab, sm_append, sm_append, sm_cons]; omega
  refine ⟨a, b, hx _, hx _, hx, fun q hq => ?_⟩
  rw [hab]
  rcases List.mem_append.1 hq with h' | h'
  ·exact List.mem_append.2 (.inl h')
  ·exact List.mem_append.2 (.inr (List.mem_cons_of_mem _ h'))
 have hnar : Narrow l r e := by
  refine ⟨hlen, fun j hj => ?_, fun x hx => ⟨fun j hj => ?_, hx.2⟩⟩
  ·by_cases h1 : j = i
   ·subst h1
    rw [hown.1, hown.2]
    unfold ownA ownB
    omega
   ·by_cases h2 : j ∈ kidsAt l l.length i
    ·have := hk j h2; omega
    ·have := hsame j hj h1 h2; omega
  ·have hxj := hx.1 j hj
   have hxi := hx.1 i hi
   have h4 := hx.2 i hi hne
   simp only [netT] at h4
   have l1 : sL l r i ≤ sm x (kidsAt l l.length i) := sm_le (fun q hq => (hx.1 q (hkid q hq).2).1)
   have l2 : sm x (kidsAt l l.length i) ≤ sH l r i := sm_le (fun q hq => (hx.1 q (hkid q hq).2).2)
   have ho : ownA l r i ≤ x i ∧ x i ≤ ownB l r i := by unfold ownA ownB; omega
   by_cases h1 : j = i
   ·subst h1
    rw [hown.1, hown.2]
    exact ho
   ·by_cases h2 : j ∈ kidsAt l l.length i
    ·obtain ⟨a, b, e1, e2, e3, hq⟩ := hsplit j h2
     have e4 := e3 x
     have m1 : sm (lo9 r) (a ++ b) ≤ sm x (a ++ b) := sm_le (fun q h => (hx.1 q (hkid q (hq q h)).2).1)
     have m2 : sm x (a ++ b) ≤ sm (hi9 r) (a ++ b) := sm_le (fun q h => (hx.1 q (hkid q (hq q h)).2).2)
     have := hk j h2
     omega
    ·have := hsame j hj h1 h2; omega
 refine ⟨hnar, ?_, fun hee => ?_⟩
 ·by_cases hd : ownA l r i ≤ ownB l r i
  ·refine .inr (fun j hj => ?_)
   have hvj := hv j hj
   have hoA : lo9 r i ≤ ownA l r i ∧ sL l r i ≤ ownA l r i := by unfold ownA; omega
   have hoB : ownB l r i ≤ hi9 r i ∧ ownB l r i ≤ sH l r i + loP l i := by unfold ownB; omega
   by_cases h1 : j = i
   ·subst h1
    rw [hown.1, hown.2]
    omega
   ·by_cases h2 : j ∈ kidsAt l l.length i
    ·obtain ⟨a, b, e1, e2, e3, hq⟩ := hsplit j h2
     have m1 : sm (lo9 r) (a ++ b) ≤ sm (hi9 r) (a ++ b) := sm_le (fun q h => (hv q (hkid q (hq q h)).2).2.1)
     have := hk j h2
     omega
    ·have := hsame j hj h1 h2; omega
  ·exact .inl ⟨i, hi, by rw [hown.1, hown.2]; omega⟩
 ·intro _
  have h1 : lo9 r i = ownA l r i ∧ hi9 r i = ownB l r i := by rw [← hown.1, ← hown.2, hee]; exact ⟨rfl, rfl⟩
  refine ⟨?_, fun k hk' => ?_⟩
  ·unfold ownA ownB at h1
   omega
  ·have h2 := hk k hk'
   rw [hee] at h2
   omega
structure OnceAt (l : List PI) (r : List RG) (m : Nat) (e : List RG) : Prop where
 nar : Narrow l r e
 now : Dead l e ∨ Vol l.length (lo9 e) (hi9 e)
 fix : Vol l.length (lo9 e) (hi9 e) → e = r → ∀ p, p < m → Done l r p
theorem nil_len (l : List PI) (p : Nat) (h : kidsAt l l.length p = []) : ∀ r, Done l r p := fun _ hc => absurd h hc
theorem once_dead (hn : l.length ≤ 200) {r : List RG} (hr : r.length = l.length) (hd : Dead l r) : ∀ m, m ≤ l.length → Ev (fun k => cohousingref28_once.l0 k l r ((m : Int) - 1)) r := by
 intro m
 induction m with
 | zero =>
  intro _
  have h1 : ¬ (((0 : Nat) : Int) - 1 ≥ 0) := by omega
  refine Ev.step ?_
  simp only [cohousingref28_once.l0, h1, if_false]
  exact Ev.pure _
 | succ m ih =>
  intro hm
  have e : ((m + 1 : Nat) : Int) - 1 = (m : Int) := by omega
  have h1 : ((m : Int) ≥ 0) := by omega
  have e2 : wrap64 ((m : Int) - 1) = (m : Int) - 1 := wrap_id (by omega) (by omega)
  rw [e]
  refine Ev.step ?_
  simp only [cohousingref28_once.l0, h1, if_true, e2]
  refine Ev.bnd (below_f' l hn m (by omega)) ?_
  have hem := empty_f r (by omega)
  rw [decide_eq_true (show ∃ j, j < r.length ∧ (rr r j).f1 < (rr r j).f0 from by
   obtain ⟨j, hj, h⟩ := hd
   exact ⟨j, by omega, h⟩)] at hem
  by_cases hc : (((kidsAt l l.length m).map Int.ofNat).length : Int) > 0
  ·simp only [hc, if_true]
   refine Ev.bnd hem ?_
   simp only [if_true]
   exact ih (by omega)
  ·simp only [hc, if_false]
   exact ih (by omega)
theorem once_l0 (hok : okL l) (hn : l.length ≤ 200) : ∀ m, m ≤ l.length → ∀ r : List RG, r.length = l.length → Vol l.length (lo9 r) (hi9 r) → ∃ e, Ev (fun k => cohousingref28_once.l0 k l r ((m : Int) - 1)) e ∧ OnceAt l r m e := by
 intro m
 induction m with
 | zero =>
  intro _ r hr hv
  refine ⟨r, ?_, ⟨Narrow.refl hr, .inr hv, fun _ _ p hp => absurd hp (Nat.not_lt_zero _)⟩⟩
  have h1 : ¬ (((0 : Nat) : Int) - 1 ≥ 0) := by omega
  refine Ev.step ?_
  simp only [cohousingref28_once.l0, h1, if_false]
  exact Ev.pure _
 | succ m ih =>
  intro hm r hr hv
  have e : ((m + 1 : Nat) : Int) - 1 = (m : Int) := by omega
  have h1 : ((m : Int) ≥ 0) := by omega
  have e2 : wrap64 ((m : Int) - 1) = (m : Int) - 1 := wrap_id (by omega) (by omega)
  have hem := empty_f r (by omega)
  rw [decide_eq_false (show ¬ ∃ j, j < r.length ∧ (rr r j).f1 < (rr r j).f0 from by
   rintro ⟨j, hj, h⟩
   exact vol_not_dead hv ⟨j, by omega, h⟩)] at hem
  rw [e]
  by_cases hne : kidsAt l l.length m = []
  ·obtain ⟨e', he', ho⟩ := ih (by omega) r hr hv
   refine ⟨e', Ev.step ?_, ⟨ho.nar, ho.now, fun hv' hee p hp => ?_⟩⟩
   ·simp only [cohousingref28_once.l0, h1, if_true, e2]
    refine Ev.bnd (below_f' l hn m (by omega)) ?_
    have hc : ¬ (((kidsAt l l.length m).map Int.ofNat).length : Int) > 0 := by rw [hne]; simp
    simp only [hc, if_false]
    exact he'
   ·by_cases h' : p < m
    ·exact ho.fix hv' hee p h'
    ·rw [show p = m by omega]; exact nil_len l m hne r
  ·have hst := eq_step hok hn hr hv (i := m) (by omega) hne
   obtain ⟨q, hq⟩ : ∃ q, q = (List.range l.length).map (eqAt l r m) := ⟨_, rfl⟩
   rw [← hq] at hst
   have hqf := eq_f hok hn hr hv (i := m) (by omega)
   rw [← hq] at hqf
   have hrest : ∃ e', Ev (fun k => cohousingref28_once.l0 k l q ((m : Int) - 1)) e' ∧ OnceAt l q m e' := by
    rcases hst.2.1 with hd | hv'
    ·exact ⟨q, once_dead hn hst.1.len hd m (by omega), Narrow.refl hst.1.len, .inl hd, fun hv2 _ => absurd hd (vol_not_dead hv2)⟩
    ·exact ih (by omega) q hst.1.len hv'
   obtain ⟨e', he', ho⟩ := hrest
   refine ⟨e', Ev.step ?_, ⟨hst.1.trans ho.nar, ho.now, fun hv' hee p hp => ?_⟩⟩
   ·simp only [cohousingref28_once.l0, h1, if_true, e2]
    refine Ev.bnd (below_f' l hn m (by omega)) ?_
    have hc : (((kidsAt l l.length m).map Int.ofNat).length : Int) > 0 := by
     have := List.length_pos_iff.2 hne
     rw [List.length_map]; omega
    simp only [hc, if_true]
    refine Ev.bnd hem ?_
    simp only [Bool.false_eq_true, if_false]
    exact Ev.bnd hqf he'
   ·have hqr : q = r := by
     apply rr_ext (by rw [hst.1.len, hr])
     intro j hj
     rw [hst.1.len] at hj
     have a1 := hst.1.rng j hj
     have a2 := ho.nar.rng j hj
     rw [hee] at a2
     have b1 : lo9 q j = lo9 r j := by omega
     have b2 : hi9 q j = hi9 r j := by omega
     unfold lo9 at b1
     unfold hi9 at b2
     cases h1 : rr q j
     cases h2 : rr r j
     rw [h1, h2] at b1 b2
     simp only at b1 b2
     rw [b1, b2]
    by_cases h' : p < m
    ·have := ho.fix hv' (hee.trans hqr.symm) p h'
     rw [hqr] at this
     exact this
    ·rw [show p = m by omega]
     exact hst.2.2 hqr
theorem once_f (hok : okL l) (hn : l.length ≤ 200) (r : List RG) (hr : r.length = l.length) (hv : Vol l.length (lo9 r) (hi9 r)) : ∃ e, Ev (fun k => cohousingref28_once.f k l r) e ∧ OnceAt l r l.length e := by
 obtain ⟨e, he, ho⟩ := once_l0 hok hn l.length (Nat.le_refl _) r hr hv
 refine ⟨e, ?_, ho⟩
 unfold cohousingref28_once.f
 rw [wrap_id (by omega) (by omega)]
 exact he
def wide (n : Nat) (e : List RG) : Nat := (List.range n).foldl (fun s j => s + (hi9 e j - lo9 e j).toNat) 0
theorem wide_succ (n : Nat) (e : List RG) : wide (n + 1) e = wide n e + (hi9 e n - lo9 e n).toNat := by
 unfold wide
 rw [List.range_succ, List.foldl_append]
 rfl
theorem wide_le (r e : List RG) : ∀ n, (∀ j, j < n → lo9 r j ≤ lo9 e j ∧ hi9 e j ≤ hi9 r j) → wide n e ≤ wide n r := by
 intro n
 induction n with
 | zero => intro _; exact Nat.le_refl _
 | succ n ih =>
  intro h
  rw [wide_succ, wide_succ]
  have h1 := ih (fun j hj => h j (by omega))
  have h2 := h n (by omega)
  omega
theorem wide_lt (r e : List RG) : ∀ n, (∀ j, j < n → lo9 r j ≤ lo9 e j ∧ hi9 e j ≤ hi9 r j ∧ lo9 e j ≤ hi9 e j) → (∃ j, j < n ∧ (lo9 r j ≠ lo9 e j ∨ hi9 r j ≠ hi9 e j)) → wide n e < wide n r := by
 intro n
 induction n with
 | zero => rintro _ ⟨j, hj, _⟩; omega
 | succ n ih =>
  rintro h ⟨j, hj, hd⟩
  rw [wide_succ, wide_succ]
  have h2 := h n (by omega)
  by_cases hjn : j < n
  ·have h1 := ih (fun j hj => h j (by omega)) ⟨j, hjn, hd⟩
   omega
  ·have e1 : j = n := by omega
   subst e1
   have h1 := wide_le r e j (fun j hj => by have := h j (by omega); omega)
   omega
theorem bounds_l0 (hok : okL l) (hn : l.length ≤ 200) : ∀ (μ : Nat) (r : List RG), wide l.length r = μ → r.length = l.length → Vol l.length (lo9 r) (hi9 r) →
  (Ev (fun k => cohousingref28_bounds.l0 k l r) ([], false) ∧ ¬ ∃ x, Sol (netT l) (lo9 r) (hi9 r) x) ∨
  (∃ d, Ev (fun k => cohousingref28_bounds.l0 k l r) (d, true) ∧ Narrow l r d ∧ Vol l.length (lo9 d) (hi9 d) ∧ ∀ p, p < l.length → Done l d p) := by
 intro μ
 induction μ using Nat.strongRecOn with
 | ind μ ih =>
  intro r hμ hr hv
  obtain ⟨e, he, ho⟩ := once_f hok hn r hr hv
  have hem := empty_f e (by have := ho.nar.len; omega)
  have hsf := same_f e r (by have := ho.nar.len; omega)
  rcases ho.now with hd | hv'
  ·refine .inl ⟨Ev.step ?_, fun ⟨x, hx⟩ => dead_no_sol hd ⟨x, ho.nar.sol x hx⟩⟩
   rw [decide_eq_true (show ∃ j, j < e.length ∧ (rr e j).f1 < (rr e j).f0 from by
    obtain ⟨j, hj, h⟩ := hd
    exact ⟨j, by rw [ho.nar.len]; exact hj, h⟩)] at hem
   simp only [cohousingref28_bounds.l0]
   refine Ev.bnd he (Ev.bnd hem ?_)
   simp only [if_true]
   exact Ev.pure _
  ·rw [decide_eq_false (show ¬ ∃ j, j < e.length ∧ (rr e j).f1 < (rr e j).f0 from by
    rintro ⟨j, hj, h⟩
    exact vol_not_dead hv' ⟨j, by rw [← ho.nar.len]; exact hj, h⟩)] at hem
   by_cases hee : e = r
   ·rw [decide_eq_true hee] at hsf
    refine .inr ⟨e, Ev.step ?_, ho.nar, hv', fun p hp => by rw [hee]; exact ho.fix hv' hee p hp⟩
    simp only [cohousingref28_bounds.l0]
    refine Ev.bnd he (Ev.bnd hem ?_)
    simp only [Bool.false_eq_true, if_false]
    refine Ev.bnd hsf ?_
    simp only [if_true]
    exact Ev.pure _
   ·rw [decide_eq_false hee] at hsf
    have hlt : wide l.length e < μ := by
     rw [← hμ]
     refine wide_lt r e l.length (fun j hj => by have := ho.nar.rng j hj; have := hv' j hj; omega) ?_
     by_cases hex : ∃ j, j < l.length ∧ (lo9 r j ≠ lo9 e j ∨ hi9 r j ≠ hi9 e j)
     ·exact hex
     ·refine absurd (rr_ext (by rw [ho.nar.len, hr]) (fun j hj => ?_)) hee
      rw [ho.nar.len] at hj
      have b1 : lo9 e j = lo9 r j := by
       by_cases h : lo9 r j = lo9 e j
       ·exact h.symm
       ·exact absurd ⟨j, hj, .inl h⟩ hex
      have b2 : hi9 e j = hi9 r j := by
       by_cases h : hi9 r j = hi9 e j
       ·exact h.symm
       ·exact absurd ⟨j, hj, .inr h⟩ hex
      unfold lo9 at b1
      unfold hi9 at b2
      cases h1 : rr e j
      cases h2 : rr r j
      rw [h1, h2] at b1 b2
      simp only at b1 b2
      rw [b1, b2]
    have hrest : ∀ R, Ev (fun k => cohousingref28_bounds.l0 k l e) R → Ev (fun k => cohousingref28_bounds.l0 k l r) R := fun R hR => by
     refine Ev.step ?_
     simp only [cohousingref28_bounds.l0]
     refine Ev.bnd he (Ev.bnd hem ?_)
     simp only [Bool.false_eq_true, if_false]
     refine Ev.bnd hsf ?_
     simp only [Bool.false_eq_true, if_false]
     exact hR
    rcases ih (wide l.length e) hlt e rfl ho.nar.len hv' with ⟨h1, h2⟩ | ⟨d, h1, h2, h3, h4⟩
    ·exact .inl ⟨hrest _ h1, fun ⟨x, hx⟩ => h2 ⟨x, ho.nar.sol x hx⟩⟩
    ·exact .inr ⟨d, hrest _ h1, ho.nar.trans h2, h3, h4⟩
end
end Go.Proofs.Ytolmjhpapidmhaa.P
end
section
namespace Go.Proofs.Ytolmjhpapidmhaa.P
open Go.RowKit Go.Proofs.YtolmjhpapidmhaaW.PrintWords Go.Proofs.YtolmjhpapidmhaaW.PrintLast Go.Proofs.YtolmjhpapidmhaaW.PrintMore Go.Proofs.YtolmjhpapidmhaaH Go.Proofs.FlowTree
open Classical
theorem Lo_map (r : List RG) : Lo (r.map toI) = lo9 r := funext (fun i => Lo_toI r i)
theorem Hi_map (r : List RG) : Hi (r.map toI) = hi9 r := funext (fun i => Hi_toI r i)
theorem rr_toR (d : List IV) (i : Nat) : rr (d.map toR) i = toR (rv d i) := by
 simp only [rv, rr, rd_T74, rd_T46, Int.toNat_natCast, List.getD_eq_getElem?_getD, List.getElem?_map]
 cases d[i]? <;> rfl
theorem belongs_iff (n : Nat) (r : List RG) : belongsB n r = true ↔ r.length = n ∧ Vol n (lo9 r) (hi9 r) := by
 unfold belongsB
 rw [Bool.and_eq_true, decide_eq_true_eq, Bool.not_eq_true', List.any_eq_false]
 constructor
 ·rintro ⟨h1, h2⟩
  refine ⟨h1, fun j hj => ?_⟩
  have hj' : j < r.length := by omega
  have := h2 r[j] (List.getElem_mem hj')
  simp only [oddR, Bool.not_eq_true, decide_eq_false_iff_not, Decidable.not_not] at this
  have e : rr r j = r[j] := by simp [rr, rd_T46, List.getD_eq_getElem?_getD, hj']
  unfold lo9 hi9
  rw [e]
  omega
 ·rintro ⟨h1, h2⟩
  refine ⟨h1, fun x hx => ?_⟩
  obtain ⟨j, hj, rfl⟩ := List.mem_iff_getElem.1 hx
  have := h2 j (by omega)
  have e : rr r j = r[j] := by simp [rr, rd_T46, List.getD_eq_getElem?_getD, hj]
  unfold lo9 hi9 at this
  rw [e] at this
  simp only [oddR, Bool.not_eq_true, decide_eq_false_iff_not, Decidable.not_not]
  omega
structure Good (l : List PI) (r : List RG) : Prop where
 ok : okL l
 n : l.length ≤ 200
 len : r.length = l.length
 vol : Vol l.length (lo9 r) (hi9 r)
theorem good_iff (l : List PI) (r : List RG) : Good l r ↔ (okL l ∧ l.length ≤ 200) ∧ belongsB l.length r = true := by
 rw [belongs_iff]
 exact ⟨fun h => ⟨⟨h.ok, h.n⟩, h.len, h.vol⟩, fun h => ⟨h.1.1, h.1.2, h.2.1, h.2.2⟩⟩
theorem netOk_some {l : List PI} (h : okL l) (hn : l.length ≤ 200) : ∃ kids, netOk l = some kids ∧ ∀ j, j < l.length → rdK kids j = (kidsAt l l.length j).map Int.ofNat := by
 obtain ⟨kids, hk⟩ := openK_of h
 exact ⟨kids, by unfold netOk; rw [if_pos hn, hk], (openK_some hk).2⟩
theorem netOk_none {l : List PI} (h : ¬ (okL l ∧ l.length ≤ 200)) : netOk l = none := by
 unfold netOk
 by_cases hn : l.length ≤ 200
 ·rw [if_pos hn]
  cases ho : openK l with
  | none => rfl
  | some kids => exact absurd ⟨(openK_some ho).1, hn⟩ h
 ·rw [if_neg hn]
theorem exact_uniq {l : List PI} {lo hi : Nat → Int} {d : List IV} (h : Exact l lo hi d) {e : List RG} (he : e.length = l.length) (hs : ∀ x, Sol (netT l) lo hi x → ∀ j, j < l.length → lo9 e j ≤ x j ∧ x j ≤ hi9 e j)
  (hv : Vol l.length (lo9 e) (hi9 e)) (hh : ∀ j, j < l.length → ∀ v, lo9 e j ≤ v → v ≤ hi9 e j → ∃ x, Sol (netT l) lo hi x ∧ x j = v) : e = d.map toR := by
 apply rr_ext (by rw [he, List.length_map, h.len])
 intro j hj
 rw [he] at hj
 have hd := h.rng j hj
 have hvj := hv j hj
 obtain ⟨x1, s1, e1⟩ := h.had j hj (Lo d j) (by omega) (by omega)
 obtain ⟨x2, s2, e2⟩ := h.had j hj (Hi d j) (by omega) (by omega)
 obtain ⟨x3, s3, e3⟩ := hh j hj (lo9 e j) (by omega) (by omega)
 obtain ⟨x4, s4, e4⟩ := hh j hj (hi9 e j) (by omega) (by omega)
 have a1 := hs x1 s1 j hj
 have a2 := hs x2 s2 j hj
 have a3 := h.sol x3 s3 j hj
 have a4 := h.sol x4 s4 j hj
 rw [rr_toR]
 have b1 : (rr e j).f0 = (rv d j).f0 := by unfold lo9 at *; unfold Lo at *; unfold hi9 at *; unfold Hi at *; omega
 have b2 : (rr e j).f1 = (rv d j).f1 := by unfold lo9 at *; unfold Lo at *; unfold hi9 at *; unfold Hi at *; omega
 unfold toR
 rw [← b1, ← b2]
section
variable {l : List PI} {kids : List (List Int)}
theorem ref_bounds (hok : okL l) (hn : l.length ≤ 200) (hk : ∀ j, j < l.length → rdK kids j = (kidsAt l l.length j).map Int.ofNat) {r : List RG} (hr : r.length = l.length) (hv : Vol l.length (lo9 r) (hi9 r)) :
  ((boundsF l kids (r.map toI)).1 = false ∧ (¬ ∃ x, Sol (netT l) (lo9 r) (hi9 r) x) ∧ Ev (fun k => cohousingref28_bounds.f k l r) ([], false)) ∨
  ((boundsF l kids (r.map toI)).1 = true ∧ Exact l (lo9 r) (hi9 r) (boundsF l kids (r.map toI)).2 ∧ Ev (fun k => cohousingref28_bounds.f k l r) ((boundsF l kids (r.map toI)).2.map toR, true)) := by
 have hb := boundsF_spec hok hn hk (r := r.map toI) (by rw [List.length_map, hr]) (by rw [Lo_map, Hi_map]; exact hv)
 rw [Lo_map, Hi_map] at hb
 have href := bounds_l0 hok hn (wide l.length r) r rfl hr hv
 rcases hb with ⟨b1, b2⟩ | ⟨b1, b2⟩
 ·refine .inl ⟨b1, b2, ?_⟩
  rcases href with ⟨h1, _⟩ | ⟨d, h1, h2, h3, h4⟩
  ·exact h1
  ·exfalso
   by_cases hz : 0 < l.length
   ·obtain ⟨x, hx, _⟩ := exact (netT l) (netT_ok hok) (lo9 d) (hi9 d) (lo9 d) (hi9 d) (fun i hi => (h3 i hi).2.1) (fun i hi hne => (h4 i hi hne).1) (fun i hi => ⟨Int.le_refl _, (h3 i hi).2.1, Int.le_refl _⟩)
     (fun i hi k hk' => (h4 i hi (fun hh => by simp only [netT] at hk'; rw [hh] at hk'; cases hk')).2 k hk') 0 hz (lo9 d 0) (Int.le_refl _) (h3 0 hz).2.1
    exact b2 ⟨x, fun i hi => by have := hx.1 i hi; have := h2.rng i hi; omega, hx.2⟩
   ·exact b2 ⟨fun _ => 0, fun i hi => absurd hi (by simp only [netT]; omega), fun i hi => absurd hi (by simp only [netT]; omega)⟩
 ·refine .inr ⟨b1, b2, ?_⟩
  rcases href with ⟨_, h2⟩ | ⟨d, h1, h2, h3, h4⟩
  ·exfalso
   by_cases hz : 0 < l.length
   ·obtain ⟨x, hx, _⟩ := b2.had 0 hz (Lo _ 0) (Int.le_refl _) (b2.rng 0 hz).2.1
    exact h2 ⟨x, hx⟩
   ·exact h2 ⟨fun _ => 0, fun i hi => absurd hi (by simp only [netT]; omega), fun i hi => absurd hi (by simp only [netT]; omega)⟩
  ·have e := exact_uniq b2 (e := d) h2.len (fun x hx => (h2.sol x hx).1) h3 (fun j hj v hv1 hv2 => by
    obtain ⟨x, hx, hxv⟩ := exact (netT l) (netT_ok hok) (lo9 d) (hi9 d) (lo9 d) (hi9 d) (fun i hi => (h3 i hi).2.1) (fun i hi hne => (h4 i hi hne).1) (fun i hi => ⟨Int.le_refl _, (h3 i hi).2.1, Int.le_refl _⟩)
     (fun i hi k hk' => (h4 i hi (fun hh => by simp only [netT] at hk'; rw [hh] at hk'; cases hk')).2 k hk') j hj v hv1 hv2
    exact ⟨x, ⟨fun i hi => by have := hx.1 i hi; have := h2.rng i hi; omega, hx.2⟩, hxv⟩)
   rw [← e]
   exact h1
end
inductive BoundsIs (l : List PI) (r : List RG) : List RG × Int → Prop
 | arg : ¬ Good l r → BoundsIs l r ([], 1)
 | flow : Good l r → (¬ ∃ x, Sol (netT l) (lo9 r) (hi9 r) x) → BoundsIs l r ([], 30)
 | ok (d : List IV) : Good l r → Exact l (lo9 r) (hi9 r) d → BoundsIs l r (d.map toR, 0)
theorem boundsR_is (l : List PI) (r : List RG) : BoundsIs l r (boundsR l r) := by
 unfold boundsR
 by_cases hg : Good l r
 ·obtain ⟨kids, h1, h2⟩ := netOk_some hg.ok hg.n
  rw [h1]
  simp only []
  rw [if_pos ((good_iff l r).1 hg).2]
  rcases ref_bounds hg.ok hg.n h2 hg.len hg.vol with ⟨b1, b2, _⟩ | ⟨b1, b2, _⟩
  ·rw [if_neg (by rw [b1]; decide)]
   exact .flow hg b2
  ·rw [if_pos b1]
   exact .ok _ hg b2
 ·have hno := fun h => hg ((good_iff l r).2 h)
  by_cases hv : okL l ∧ l.length ≤ 200
  ·obtain ⟨kids, h1, h2⟩ := netOk_some hv.1 hv.2
   rw [h1]
   simp only []
   rw [if_neg (fun h => hno ⟨hv, h⟩)]
   exact .arg hg
  ·rw [netOk_none hv]
   exact .arg hg
theorem ref_Bounds (l : List PI) (r : List RG) (hl : l.length ≤ 5864062014805) (hr : r.length ≤ 140737488355328) : Ev (fun k => cohousingref28_Bounds.f k l r) (boundsR l r) := by
 have hbel : cohousingref28_Belongs.f l r = some (belongsB l.length r) := by unfold cohousingref28_Belongs.f; rw [if_pos ⟨by omega, hr⟩]
 unfold cohousingref28_Bounds.f
 refine Ev.bnd (valid_f l (by omega)) ?_
 simp only [hbel, Option.bind_some]
 unfold boundsR
 by_cases hv : okL l ∧ l.length ≤ 200
 ·obtain ⟨kids, h1, h2⟩ := netOk_some hv.1 hv.2
  rw [decide_eq_true hv, h1]
  simp only [if_true]
  by_cases hb : belongsB l.length r = true
  ·have hg := (good_iff l r).2 ⟨hv, hb⟩
   rw [hb]
   simp only [if_true]
   refine Ev.step ?_
   simp only [cohousingref28_Bounds.j0, Bool.not_true, Bool.false_eq_true, if_false]
   rcases ref_bounds hg.ok hg.n h2 hg.len hg.vol with ⟨b1, b2, b3⟩ | ⟨b1, b2, b3⟩
   ·refine Ev.bnd b3 ?_
    simp only [b1, Bool.false_eq_true, if_false]
    exact Ev.pure _
   ·refine Ev.bnd b3 ?_
    have hlen : ([] : List RG).length + ((boundsF l kids (r.map toI)).2.map toR).length < 8796093022208 := by
     rw [List.length_map, b2.len]; simp; omega
    simp only [b1, if_true, Option.bind_some, hlen, List.nil_append]
    exact Ev.pure _
  ·rw [if_neg hb]
   rw [Bool.not_eq_true] at hb
   rw [hb]
   refine Ev.step ?_
   simp only [cohousingref28_Bounds.j0, Bool.not_false, if_true]
   exact Ev.pure _
 ·rw [decide_eq_false hv, netOk_none hv]
  simp only [Bool.false_eq_true, if_false]
  refine Ev.step ?_
  simp only [cohousingref28_Bounds.j0, if_true]
  exact Ev.pure _
end Go.Proofs.Ytolmjhpapidmhaa.P
end
section
namespace Go.Proofs.Ytolmjhpapidmhaa.P
open Go.RowKit Go.Proofs.YtolmjhpapidmhaaW.PrintWords Go.Proofs.YtolmjhpapidmhaaW.PrintLast Go.Proofs.YtolmjhpapidmhaaW.PrintMore Go.Proofs.YtolmjhpapidmhaaH Go.Proofs.FlowTree
open Classical
abbrev pp (l : List PI) (j : Nat) : PI := rd_T44 l (j : Int)
theorem pp_get (l : List PI) (j : Nat) (h : j < l.length) : pp l j = l[j] := by simp [pp, rd_T44, List.getD_eq_getElem?_getD, h]
theorem pp_map (f : Nat → PI) (n j : Nat) (h : j < n) : pp ((List.range n).map f) j = f j := by
 simp [pp, rd_T44, List.getD_eq_getElem?_getD, h]
theorem pp_set (l : List PI) (i j : Nat) (y : PI) (hi : i < l.length) : pp (l.set i y) j = if i = j then y else pp l j := by
 simp only [pp, rd_T44, Int.toNat_natCast, List.getD_eq_getElem?_getD, List.getElem?_set]
 by_cases h : i = j
 ·subst h; simp [hi]
 ·simp [h]
theorem pp_ext {a b : List PI} (hl : a.length = b.length) (h : ∀ j, j < a.length → pp a j = pp b j) : a = b := by
 refine List.ext_getElem hl fun j h1 h2 => ?_
 have := h j h1
 rwa [pp_get a j h1, pp_get b j h2] at this
def LL (l : List PI) (ss : List Int) : List PI := (List.range l.length).map (fun j : Nat => if (j : Int) ∈ ss then (⟨idP l j, abP l j, 1000000000⟩ : PI) else pp l j)
theorem LL_len (l : List PI) (ss : List Int) : (LL l ss).length = l.length := by simp [LL]
theorem LL_pp (l : List PI) (ss : List Int) (j : Nat) (h : j < l.length) : pp (LL l ss) j = if (j : Int) ∈ ss then (⟨idP l j, abP l j, 1000000000⟩ : PI) else pp l j := pp_map _ _ _ h
def InR (n : Nat) (ss : List Int) : Prop := ∀ x ∈ ss, 0 ≤ x ∧ x < n
theorem rd_in {n : Nat} {ss : List Int} (h : InR n ss) (j : Nat) (hj : j < ss.length) : 0 ≤ rd ss (j : Int) ∧ rd ss (j : Int) < n := h _ (by rw [rd_at ss j hj]; exact List.getElem_mem hj)
theorem leakS_at (n : Nat) (ss : List Int) (h : InR n ss) : ∀ m, m ≤ ss.length → ∀ j : Nat, j < n → (rdOf false (leakS n ss m) (j : Int) = true ↔ (j : Int) ∈ ss.take m) := by
 intro m
 induction m with
 | zero =>
  intro _ j hj
  simp [leakS, rdOf, List.getD_eq_getElem?_getD, hj]
 | succ m ih =>
  intro hm j hj
  have hin := rd_in h m (by omega)
  rw [leakS_succ, List.take_succ_eq_append_getElem (by omega), List.mem_append, ← ih (by omega) j hj, List.mem_singleton, ← rd_at ss m (by omega)]
  simp only [rdOf, Int.toNat_natCast, List.getD_eq_getElem?_getD, List.getElem?_set]
  by_cases e : (rd ss (m : Int)).toNat = j
  ·have hl : j < (leakS n ss m).length := by rw [leakS_len]; exact hj
   rw [if_pos e, e, if_pos hl]
   simp
   right
   omega
  ·rw [if_neg e]
   constructor
   ·intro h; exact .inl h
   ·rintro (h | h)
    ·exact h
    ·exact absurd (by omega) e
theorem leakP_at (l : List PI) (ys : List Bool) : ∀ m, m ≤ l.length → ∀ j : Nat, j < l.length → pp (leakP l ys m) j = if j < m ∧ rdOf false ys (j : Int) = true then (⟨idP l j, abP l j, 1000000000⟩ : PI) else pp l j := by
 intro m
 induction m with
 | zero => intro _ j _; rw [if_neg (by omega)]; rfl
 | succ m ih =>
  intro hm j hj
  rw [leakP_succ]
  by_cases hb : rdOf false ys (m : Int) = true
  ·rw [if_pos hb, pp_set _ _ _ _ (by rw [leakP_len]; omega)]
   by_cases e : m = j
   ·subst e
    rw [if_pos rfl, if_pos ⟨by omega, hb⟩]
    have h1 := ih (by omega) m (by omega)
    rw [if_neg (by omega)] at h1
    have h2 : rd_T44 (leakP l ys m) (m : Int) = pp l m := h1
    rw [h2]
   ·rw [if_neg e, ih (by omega) j hj]
    by_cases h2 : j < m ∧ rdOf false ys (j : Int) = true
    ·rw [if_pos h2, if_pos ⟨by omega, h2.2⟩]
    ·rw [if_neg h2, if_neg (fun h => h2 ⟨by omega, h.2⟩)]
  ·rw [if_neg hb, ih (by omega) j hj]
   by_cases h2 : j < m ∧ rdOf false ys (j : Int) = true
   ·rw [if_pos h2, if_pos ⟨by omega, h2.2⟩]
   ·rw [if_neg h2, if_neg (fun h => h2 ⟨by
     have : j ≠ m := fun e => hb (e ▸ h.2)
     omega, h.2⟩)]
theorem leakP_LL (l : List PI) (ss : List Int) (h : InR l.length ss) : leakP l (leakS l.length ss ss.length) l.length = LL l ss := by
 refine pp_ext (by rw [leakP_len, LL_len]) fun j hj => ?_
 rw [leakP_len] at hj
 rw [leakP_at l _ l.length (Nat.le_refl _) j hj, LL_pp l ss j hj]
 have h1 := leakS_at l.length ss h ss.length (Nat.le_refl _) j hj
 rw [List.take_of_length_le (Nat.le_refl _)] at h1
 by_cases e : (j : Int) ∈ ss
 ·rw [if_pos e, if_pos ⟨hj, h1.2 e⟩]
 ·rw [if_neg e, if_neg (fun h => e (h1.1 h.2))]
section
variable (l : List PI) (ss : List Int)
theorem LL_idP (j : Nat) (h : j < l.length) : idP (LL l ss) j = idP l j := by
 show (pp (LL l ss) j).f0 = _
 rw [LL_pp l ss j h]
 split <;> rfl
theorem LL_abP (j : Nat) (h : j < l.length) : abP (LL l ss) j = abP l j := by
 show (pp (LL l ss) j).f1 = _
 rw [LL_pp l ss j h]
 split <;> rfl
theorem LL_loP (j : Nat) (h : j < l.length) : loP (LL l ss) j = if (j : Int) ∈ ss then 1000000000 else loP l j := by
 show (pp (LL l ss) j).f2 = _
 rw [LL_pp l ss j h]
 split <;> rfl
theorem LL_kids (i : Nat) (hi : i < l.length) : kidsAt (LL l ss) (LL l ss).length i = kidsAt l l.length i := by
 unfold kidsAt
 rw [LL_len]
 refine List.filter_congr fun k hk => ?_
 rw [List.mem_range] at hk
 rw [LL_abP l ss k hk, LL_idP l ss i hi]
theorem LL_ok (h : okL l) : okL (LL l ss) := by
 intro i hi
 rw [LL_len] at hi
 have h1 := h i hi
 unfold okP at h1 ⊢
 rw [LL_idP l ss i hi, LL_abP l ss i hi]
 refine ⟨h1.1, fun h0 => ?_, ?_, fun ha => ?_⟩
 ·rw [LL_idP l ss (i - 1) (by omega)]
  exact h1.2.1 h0
 ·rw [LL_loP l ss i hi]
  split
  ·omega
  ·exact h1.2.2.1
 ·obtain ⟨j, hj, e⟩ := h1.2.2.2 ha
  exact ⟨j, hj, by rw [LL_idP l ss j (by omega)]; exact e⟩
theorem LL_good {r : List RG} (h : Good l r) : Good (LL l ss) r := ⟨LL_ok l ss h.ok, by rw [LL_len]; exact h.n, by rw [LL_len]; exact h.len, by rw [LL_len]; exact h.vol⟩
end
theorem sol_wider {T T' : Net} {lo hi lo' hi' x : Nat → Int} (hn : T'.n = T.n) (hk : ∀ i, i < T.n → T'.kid i = T.kid i) (hl : ∀ i, i < T.n → T.kid i ≠ [] → T.loss i ≤ T'.loss i) (h1 : ∀ i, i < T.n → lo' i ≤ lo i ∧ hi i ≤ hi' i) (h : Sol T lo hi x) : Sol T' lo' hi' x := by
 refine ⟨fun i hi => ?_, fun i hi hk' => ?_⟩
 ·rw [hn] at hi
  have := h.1 i hi
  have := h1 i hi
  omega
 ·rw [hn] at hi
  rw [hk i hi] at hk' ⊢
  have h2 := h.2 i hi hk'
  have h3 := hl i hi hk'
  omega
def Has (l : List PI) (r : List RG) : Prop := ∃ x, Sol (netT l) (lo9 r) (hi9 r) x
theorem exact_has {l : List PI} {r : List RG} (_ : Good l r) {d : List IV} (h : Exact l (lo9 r) (hi9 r) d) : Has l r := by
 by_cases h0 : l.length = 0
 ·refine ⟨fun _ => 0, fun i hi => ?_, fun i hi => ?_⟩
  ·have : i < l.length := hi
   omega
  ·have : i < l.length := hi
   omega
 ·have r := h.rng 0 (by omega)
  obtain ⟨x, hx, _⟩ := h.had 0 (by omega) (Lo d 0) (by omega) (by omega)
  exact ⟨x, hx⟩
theorem bounds_has {l : List PI} {r : List RG} (hg : Good l r) : ((boundsR l r).2 = 0 ↔ Has l r) ∧ ((boundsR l r).2 = 0 ∨ (boundsR l r).2 = 30) := by
 have h := boundsR_is l r
 generalize boundsR l r = b at h
 cases h with
 | arg hn => exact absurd hg hn
 | flow _ hs => exact ⟨⟨fun h => absurd h (by decide), fun h => absurd h hs⟩, .inr rfl⟩
 | ok d _ he =>
  refine ⟨⟨fun _ => ?_, fun _ => rfl⟩, .inl rfl⟩
  exact exact_has hg he
theorem bounds_one (l : List PI) (r : List RG) : (boundsR l r).2 = 1 ↔ ¬ Good l r := by
 have h := boundsR_is l r
 generalize boundsR l r = b at h
 cases h with
 | arg hn => exact ⟨fun _ => hn, fun _ => rfl⟩
 | flow hg _ => exact ⟨fun h => absurd h (by decide), fun h => absurd hg h⟩
 | ok d hg he => exact ⟨(fun h => by cases h), fun h => absurd hg h⟩
theorem ex_iff {l : List PI} {r : List RG} (hg : Good l r) {ss : List Int} (h : InR l.length ss) : explB l r ss = true ↔ Has (LL l ss) r := by
 unfold explB
 rw [leakP_LL l ss h, beq_iff_eq]
 exact (bounds_has (LL_good l ss hg)).1
def par (l : List PI) (x : Int) : Bool := l.any (isAb (pp l x.toNat).f0)
theorem par_kids {l : List PI} (hok : okL l) {i : Nat} (hi : i < l.length) : par l (i : Int) = true ↔ kidsAt l l.length i ≠ [] := by
 unfold par
 rw [Int.toNat_natCast, List.any_eq_true]
 constructor
 ·rintro ⟨q, hq, he⟩
  obtain ⟨k, hk, rfl⟩ := List.mem_iff_getElem.1 hq
  have h1 : abP l k = idP l i := by
   have := of_decide_eq_true he
   rw [← pp_get l k hk] at this
   exact this
  have h2 := hok k hk
  have h3 := hok i hi
  obtain ⟨j, hj, e⟩ := h2.2.2.2 (by have := h3.1; omega)
  have h4 := id_inj (m := l.length) (fun a ha => hok a ha) (by omega) hi (e.trans h1)
  intro hnil
  have h5 : k ∈ kidsAt l l.length i := kidsAt_mem.2 ⟨hk, by omega, h1⟩
  rw [hnil] at h5
  cases h5
 ·intro hne
  obtain ⟨k, hk⟩ := List.exists_mem_of_ne_nil _ hne
  obtain ⟨h1, _, h3⟩ := kidsAt_mem.1 hk
  refine ⟨l[k], List.getElem_mem h1, ?_⟩
  rw [← pp_get l k h1]
  exact decide_eq_true h3
theorem parN_eq (l : List PI) (n : Nat) : parN l n = (iv 0 n).filter (par l) := by
 induction n with
 | zero => rfl
 | succ n ih =>
  rw [parN_succ, iv_snoc, List.filter_append, ih]
  have e : (0 : Int) + (n : Int) = (n : Int) := by omega
  rw [e]
  by_cases h : par l (n : Int) = true
  ·rw [List.filter_cons_of_pos h, List.filter_nil, if_pos (by unfold par at h; rw [Int.toNat_natCast] at h; exact h)]
  ·rw [List.filter_cons_of_neg h, List.filter_nil, List.append_nil, if_neg (by unfold par at h; rw [Int.toNat_natCast] at h; exact h)]
theorem ex_more {l : List PI} {r : List RG} (hg : Good l r) {ss tt : List Int} (hs : InR l.length ss) (ht : InR l.length tt) (h : ∀ x ∈ ss, par l x = true → x ∈ tt) (he : explB l r ss = true) : explB l r tt = true := by
 rw [ex_iff hg ht]
 obtain ⟨x, hx⟩ := (ex_iff hg hs).1 he
 refine ⟨x, sol_wider (T := netT (LL l ss)) ?_ ?_ ?_ (fun i _ => ⟨Int.le_refl _, Int.le_refl _⟩) hx⟩
 ·simp [netT, LL_len]
 ·intro i hi
  simp only [netT, LL_len] at hi ⊢
  have h1 := LL_kids l ss i hi
  have h2 := LL_kids l tt i hi
  rw [LL_len] at h1 h2
  rw [h1, h2]
 ·intro i hi hk
  simp only [netT, LL_len] at hi hk ⊢
  have h1 := LL_kids l ss i hi
  rw [LL_len] at h1
  rw [h1] at hk
  rw [LL_loP l ss i hi, LL_loP l tt i hi]
  have hlo := (hg.ok i hi).2.2.1.2
  by_cases e : (i : Int) ∈ ss
  ·rw [if_pos (h _ e ((par_kids hg.ok hi).2 hk))]
   split <;> omega
  ·rw [if_neg e]
   split <;> omega
end Go.Proofs.Ytolmjhpapidmhaa.P
end
section
namespace Go.Proofs.Ytolmjhpapidmhaa.P
open Go.RowKit Go.Proofs.YtolmjhpapidmhaaW.PrintWords Go.Proofs.YtolmjhpapidmhaaW.PrintLast Go.Proofs.YtolmjhpapidmhaaW.PrintMore Go.Proofs.YtolmjhpapidmhaaH Go.Proofs.FlowTree
open Classical
def exs (l : List PI) (r : List RG) (s : Nat) : List (List Int) := (combos (iv 0 l.length) s).filter (explB l r)
theorem combos_in {n s : Nat} {c : List Int} (h : c ∈ combos (iv 0 n) s) : InR n c := fun x hx => by
 have := (mem_combos.1 h).2.subset hx
 rw [iv_mem] at this
 omega
theorem all_par {l : List PI} {r : List RG} (hg : Good l r) {s : Nat} (hmin : ∀ t, t < s → exs l r t = []) {c : List Int} (hc : c ∈ combos (iv 0 l.length) s) (he : explB l r c = true) : c.all (par l) = true := by
 rcases Decidable.em (c.all (par l) = true) with h | h
 ·exact h
 ·exfalso
  have hex : ∃ x ∈ c, ¬ par l x = true := by
   rcases Decidable.em (∃ x ∈ c, ¬ par l x = true) with h1 | h1
   ·exact h1
   ·exact absurd (List.all_eq_true.2 fun x hx => Decidable.by_contra fun hn => h1 ⟨x, hx, hn⟩) h
  obtain ⟨hl, hs⟩ := mem_combos.1 hc
  have hlt : (c.filter (par l)).length < s := by
   rw [← hl]
   exact List.length_filter_lt_length_iff_exists.2 hex
  have hin := combos_in hc
  have hin' : InR l.length (c.filter (par l)) := fun x hx => hin x (List.mem_filter.1 hx).1
  have h2 : explB l r (c.filter (par l)) = true := ex_more hg hin hin' (fun x hx hp => List.mem_filter.2 ⟨hx, hp⟩) he
  have h3 : c.filter (par l) ∈ exs l r (c.filter (par l)).length := List.mem_filter.2 ⟨mem_combos.2 ⟨rfl, List.filter_sublist.trans hs⟩, h2⟩
  rw [hmin _ hlt] at h3
  cases h3
theorem pick_exs {l : List PI} {r : List RG} (hg : Good l r) {s : Nat} (hmin : ∀ t, t < s → exs l r t = []) : pick l r (parN l l.length) [] 0 s = exs l r s := by
 unfold pick exs
 rw [List.drop_zero, parN_eq, combos_filter, show (fun x : List Int => ([] : List Int) ++ x) = id from rfl, List.map_id, List.filter_filter]
 refine List.filter_congr fun c hc => ?_
 cases he : explB l r c with
 | false => rfl
 | true => rw [all_par hg hmin hc he]; rfl
def smallR (l : List PI) (r : List RG) (s : Nat) : Nat → List (List Int)
 | 0 => []
 | d + 1 => if exs l r s = [] then smallR l r (s + 1) d else exs l r s
theorem smallM_eq {l : List PI} {r : List RG} (hg : Good l r) : ∀ (d s : Nat), (∀ t, t < s → exs l r t = []) → smallM l r (parN l l.length) s d = smallR l r s d := by
 intro d
 induction d with
 | zero => intro s _; rfl
 | succ d ih =>
  intro s hmin
  unfold smallM smallR
  rw [pick_exs hg hmin]
  by_cases h : exs l r s = []
  ·rw [if_pos h, if_pos h]
   exact ih (s + 1) (fun t ht => by
    by_cases e : t = s
    ·rw [e]; exact h
    ·exact hmin t (by omega))
  ·rw [if_neg h, if_neg h]
theorem small_spec (l : List PI) (r : List RG) : ∀ (d s : Nat), (smallR l r s d = [] ∧ ∀ t, s ≤ t → t < s + d → exs l r t = []) ∨ ∃ t, s ≤ t ∧ t < s + d ∧ smallR l r s d = exs l r t ∧ exs l r t ≠ [] ∧ ∀ u, s ≤ u → u < t → exs l r u = [] := by
 intro d
 induction d with
 | zero => intro s; exact .inl ⟨rfl, fun t h1 h2 => by omega⟩
 | succ d ih =>
  intro s
  unfold smallR
  by_cases h : exs l r s = []
  ·rw [if_pos h]
   rcases ih (s + 1) with ⟨h1, h2⟩ | ⟨t, h1, h2, h3, h4, h5⟩
   ·exact .inl ⟨h1, fun t ht1 ht2 => by
     by_cases e : t = s
     ·rw [e]; exact h
     ·exact h2 t (by omega) (by omega)⟩
   ·refine .inr ⟨t, by omega, by omega, h3, h4, fun u hu1 hu2 => ?_⟩
    by_cases e : u = s
    ·rw [e]; exact h
    ·exact h5 u (by omega) hu2
  ·rw [if_neg h]
   exact .inr ⟨s, Nat.le_refl _, by omega, rfl, h, fun u hu1 hu2 => by omega⟩
theorem first_l0 : ∀ (d i : Nat), i + d ≤ 140737488355328 → i + d ≤ 17592186044416 → Ev (fun k => cohousingref30_first.l0 k ((i + d : Nat) : Int) (iv 0 i) (i : Int)) (iv 0 (i + d)) := by
 intro d
 induction d with
 | zero =>
  intro i _ _
  refine Ev.step ?_
  have h1 : ¬ ((i : Int) < ((i + 0 : Nat) : Int)) := by omega
  simp only [cohousingref30_first.l0, h1, if_false]
  exact Ev.pure _
 | succ d ih =>
  intro i h h'
  refine Ev.step ?_
  have h1 : (i : Int) < ((i + (d + 1) : Nat) : Int) := by omega
  have h2 : (iv 0 i).length < 17592186044416 := by rw [iv_len]; omega
  simp only [cohousingref30_first.l0, h1, h2, if_true, wrap_nat (show i ≤ 140737488355328 by omega)]
  have h3 := ih (i + 1) (by omega) (by omega)
  rw [iv_snoc, show (0 : Int) + (i : Int) = (i : Int) by omega, show i + 1 + d = i + (d + 1) by omega] at h3
  exact h3
theorem first_f (s : Nat) (h : s ≤ 1000) : Ev (fun k => cohousingref30_first.f k (s : Int)) (iv 0 s) := by
 have := first_l0 s 0 (by omega) (by omega)
 rw [Nat.zero_add] at this
 exact this
theorem nextC_append (n : Int) : ∀ (a b s : List Int), nextC n b = some s → nextC n (a ++ b) = some (a ++ s) := by
 intro a
 induction a with
 | nil => intro b s h; exact h
 | cons x a ih => intro b s h; simp only [List.cons_append, nextC, ih b s h]
theorem next_l1 (set : List Int) (hl : set.length ≤ 1000) : ∀ (d : Nat) (x7 : List Int) (x8 : Int), x7.length + d = set.length → -1000 ≤ x8 → x8 + d ≤ 1000000 → Ev (fun k => cohousingref30_next.l1 k set x7 x8) (x7 ++ iv x8 d, true) := by
 intro d
 induction d with
 | zero =>
  intro x7 x8 h _ _
  refine Ev.step ?_
  have h1 : ¬ ((x7.length : Int) < (set.length : Int)) := by omega
  simp only [cohousingref30_next.l1, h1, if_false]
  rw [iv, List.append_nil]
  exact Ev.pure _
 | succ d ih =>
  intro x7 x8 h hb hb2
  refine Ev.step ?_
  have h1 : (x7.length : Int) < (set.length : Int) := by omega
  have h2 : x7.length < 17592186044416 := by omega
  have h3 : wrap64 (x8 + 1) = x8 + 1 := by unfold wrap64; omega
  simp only [cohousingref30_next.l1, h1, h2, h3, if_true]
  have h4 := ih (x7 ++ [x8]) (x8 + 1) (by simp; omega) (by omega) (by omega)
  rw [List.append_assoc] at h4
  exact h4
def nextR (n : Int) (set : List Int) : List Int × Bool := match nextC n set with | some s => (s, true) | none => ([], false)
theorem next_l0 (n : Nat) (set : List Int) (hn : n ≤ 1000) (hl : set.length ≤ 1000) (hin : InR n set) : ∀ i : Nat, i ≤ set.length → nextC (n : Int) (set.drop i) = none → Ev (fun k => cohousingref30_next.l0 k set (n : Int) ((i : Int) - 1)) (nextR n set) := by
 intro i
 induction i with
 | zero =>
  intro _ h
  refine Ev.step ?_
  have h1 : ¬ (((0 : Nat) : Int) - 1 ≥ 0) := by omega
  simp only [cohousingref30_next.l0, h1, if_false]
  rw [List.drop_zero] at h
  unfold nextR
  rw [h]
  exact Ev.pure _
 | succ i ih =>
  intro hi h
  refine Ev.step ?_
  rw [show ((i + 1 : Nat) : Int) - 1 = (i : Int) by omega]
  have hlt : i < set.length := by omega
  have hr := rd_in hin i hlt
  have h1 : (i : Int) ≥ 0 := by omega
  have h1' : (0 : Int) ≤ (i : Int) := by omega
  have h2 : (i : Int) < (set.length : Int) := by omega
  have h3 : wrap64 ((n : Int) - wrap64 ((set.length : Int) - (i : Int))) = (n : Int) - ((set.length : Int) - (i : Int)) := by unfold wrap64; omega
  have h4 : (i : Int) ≤ (set.length : Int) := by omega
  have h5 : ([] : List Int).length + (set.take (i : Int).toNat).length < 17592186044416 := by rw [List.length_take]; simp only [List.length_nil]; omega
  have h6 : wrap64 (rd set (i : Int) + 1) = rd set (i : Int) + 1 := by unfold wrap64; omega
  have hd := rd_drop set i hlt
  have hlen : ((set.drop (i + 1)).length : Int) + 1 = (set.length : Int) - (i : Int) := by rw [List.length_drop]; omega
  by_cases hc : rd set (i : Int) < (n : Int) - ((set.length : Int) - (i : Int))
  ·have h5' : ([] : List Int).length + (set.take i).length < 17592186044416 := h5
   simp only [cohousingref30_next.l0, h1, h1', h2, h3, h4, h5', h6, hc, if_true, Int.toNat_natCast, List.nil_append]
   have hn1 : nextC (n : Int) (set.drop i) = some (iv (rd set (i : Int) + 1) (set.length - i)) := by
    rw [hd]
    simp only [nextC, h]
    rw [if_pos (by rw [hlen]; exact hc), List.length_drop, show set.length - (i + 1) + 1 = set.length - i by omega]
   have hn2 := nextC_append (n : Int) (set.take i) _ _ hn1
   rw [List.take_append_drop] at hn2
   unfold nextR
   rw [hn2]
   have := next_l1 set hl (set.length - i) (set.take i) (rd set (i : Int) + 1) (by rw [List.length_take]; omega) (by omega) (by omega)
   exact this
  ·have h7 : wrap64 ((i : Int) - 1) = (i : Int) - 1 := by unfold wrap64; omega
   simp only [cohousingref30_next.l0, h1, h1', h2, h3, h7, hc, if_true, if_false]
   refine ih (by omega) ?_
   rw [hd]
   simp only [nextC, h]
   rw [if_neg (by rw [hlen]; exact hc)]
theorem next_f (n : Nat) (set : List Int) (hn : n ≤ 1000) (hl : set.length ≤ 1000) (hin : InR n set) : Ev (fun k => cohousingref30_next.f k set (n : Int)) (nextR n set) := by
 have h := next_l0 n set hn hl hin set.length (Nat.le_refl _) (by rw [List.drop_of_length_le (Nat.le_refl _)]; rfl)
 unfold cohousingref30_next.f
 rw [show wrap64 ((set.length : Int) - 1) = (set.length : Int) - 1 by unfold wrap64; omega]
 exact h
theorem LL_step (l : List PI) (ss : List Int) (h : InR l.length ss) (i : Nat) (hi : i < ss.length) : (LL l (ss.take i)).set (rd ss (i : Int)).toNat (⟨(rd_T44 (LL l (ss.take i)) (rd ss (i : Int))).f0, (rd_T44 (LL l (ss.take i)) (rd ss (i : Int))).f1, 1000000000⟩ : PI) = LL l (ss.take (i + 1)) := by
 have hr := rd_in h i hi
 obtain ⟨q, hq⟩ : ∃ q : Nat, rd ss (i : Int) = (q : Int) := ⟨(rd ss (i : Int)).toNat, by omega⟩
 have hql : q < l.length := by omega
 refine pp_ext (by rw [List.length_set, LL_len, LL_len]) fun j hj => ?_
 rw [List.length_set, LL_len] at hj
 rw [hq, Int.toNat_natCast, pp_set _ _ _ _ (by rw [LL_len]; exact hql), LL_pp _ _ j hj, LL_pp _ _ j hj]
 have e1 : (rd_T44 (LL l (ss.take i)) (q : Int)).f0 = idP l q := LL_idP l _ q hql
 have e2 : (rd_T44 (LL l (ss.take i)) (q : Int)).f1 = abP l q := LL_abP l _ q hql
 rw [e1, e2]
 have hm : ∀ x : Int, x ∈ ss.take (i + 1) ↔ x ∈ ss.take i ∨ x = (q : Int) := fun x => by
  rw [List.take_succ_eq_append_getElem hi, List.mem_append, List.mem_singleton, ← rd_at ss i hi, hq]
 by_cases e : q = j
 ·subst e
  rw [if_pos rfl, if_pos ((hm _).2 (.inr rfl))]
 ·rw [if_neg e]
  by_cases e3 : (j : Int) ∈ ss.take i
  ·rw [if_pos e3, if_pos ((hm _).2 (.inl e3))]
  ·rw [if_neg e3, if_neg (fun h => by rcases (hm _).1 h with h | h; exact e3 h; exact e (by omega))]
theorem leaking_l0 (l : List PI) (ss : List Int) (h : InR l.length ss) (hs : ss.length ≤ 140737488355328) : ∀ (d i : Nat), i + d = ss.length → Ev (fun k => cohousingref30_Leaking.l0 k ss (LL l (ss.take i)) (i : Int)) (LL l ss) := by
 intro d
 induction d with
 | zero =>
  intro i hi
  refine Ev.step ?_
  have h1 : ¬ ((i : Int) < (ss.length : Int)) := by omega
  simp only [cohousingref30_Leaking.l0, h1, if_false]
  rw [List.take_of_length_le (by omega)]
  exact Ev.pure _
 | succ d ih =>
  intro i hi
  refine Ev.step ?_
  have hr := rd_in h i (by omega)
  have h1 : (i : Int) < (ss.length : Int) := by omega
  have h2 : (0 : Int) ≤ (i : Int) := by omega
  have h3 : rd ss (i : Int) < ((LL l (ss.take i)).length : Int) := by rw [LL_len]; exact hr.2
  simp only [cohousingref30_Leaking.l0, h1, h2, h3, hr.1, if_true, wrap_nat (show i ≤ 140737488355328 by omega)]
  rw [LL_step l ss h i (by omega)]
  exact ih (i + 1) (by omega)
theorem LL_nil (l : List PI) : LL l [] = l := by
 refine pp_ext (LL_len _ _) fun j hj => ?_
 rw [LL_len] at hj
 rw [LL_pp l [] j hj, if_neg (by simp)]
theorem leaking_f (l : List PI) (ss : List Int) (h : InR l.length ss) (hs : ss.length ≤ 140737488355328) (hl : l.length ≤ 1000) : Ev (fun k => cohousingref30_Leaking.f k l ss) (LL l ss) := by
 have h1 : ([] : List PI).length + l.length < 5864062014805 := by simp only [List.length_nil]; omega
 unfold cohousingref30_Leaking.f
 simp only [h1, if_true, List.nil_append]
 have := leaking_l0 l ss h hs ss.length 0 (by omega)
 rw [List.take_zero, LL_nil] at this
 exact this
theorem explains_f (l : List PI) (r : List RG) (ss : List Int) (h : InR l.length ss) (hs : ss.length ≤ 1000) (hl : l.length ≤ 1000) (hr : r.length ≤ 1000) : Ev (fun k => cohousingref30_Explains.f k l r ss) (explB l r ss) := by
 unfold cohousingref30_Explains.f explB
 rw [leakP_LL l ss h]
 refine Ev.bnd (leaking_f l ss h (by omega) hl) ?_
 refine Ev.bnd (ref_Bounds (LL l ss) r (by rw [LL_len]; omega) (by omega)) ?_
 exact Ev.pure _
theorem all_l0 (l : List PI) (r : List RG) (hl : l.length ≤ 40) (hr : r.length ≤ 1000) : ∀ (rest : List (List Int)) (c : List Int) (acc : List (List Int)), Go.Proofs.YtolmjhpapidmhaaH.Steps (nextC (l.length : Int)) (c :: rest) → (∀ x ∈ c :: rest, InR l.length x ∧ x.length ≤ 1000) → acc.length + (rest.length + 1) ≤ 1000000 →
  Ev (fun k => cohousingref30_all.l0 k l r acc c true) (acc ++ (c :: rest).filter (explB l r)) := by
 intro rest
 induction rest with
 | nil =>
  intro c acc hs hx hb
  refine Ev.step ?_
  have hc := hx c (by simp)
  have hn : nextR l.length c = ([], false) := by unfold nextR; rw [show nextC (l.length : Int) c = none from hs]
  have hnx := next_f l.length c (by omega) hc.2 hc.1
  rw [hn] at hnx
  have h1 : acc.length < 5864062014805 := by omega
  simp only [cohousingref30_all.l0, if_true]
  refine Ev.bnd (explains_f l r c hc.1 hc.2 (by omega) hr) ?_
  cases he : explB l r c with
  | true =>
   simp only [h1, if_true]
   refine Ev.bnd hnx ?_
   rw [List.filter_cons_of_pos he, List.filter_nil]
   refine Ev.step ?_
   simp only [cohousingref30_all.l0, Bool.false_eq_true, if_false]
   exact Ev.pure _
  | false =>
   simp only [Bool.false_eq_true, if_false]
   refine Ev.bnd hnx ?_
   rw [List.filter_cons_of_neg (by rw [he]; decide), List.filter_nil, List.append_nil]
   refine Ev.step ?_
   simp only [cohousingref30_all.l0, Bool.false_eq_true, if_false]
   exact Ev.pure _
 | cons b rest ih =>
  intro c acc hs hx hb
  refine Ev.step ?_
  have hc := hx c (by simp)
  have hn : nextR l.length c = (b, true) := by unfold nextR; rw [hs.1]
  have hnx := next_f l.length c (by omega) hc.2 hc.1
  rw [hn] at hnx
  have h1 : acc.length < 5864062014805 := by omega
  simp only [cohousingref30_all.l0, if_true]
  refine Ev.bnd (explains_f l r c hc.1 hc.2 (by omega) hr) ?_
  cases he : explB l r c with
  | true =>
   simp only [h1, if_true]
   refine Ev.bnd hnx ?_
   rw [List.filter_cons_of_pos he]
   have := ih b (acc ++ [c]) hs.2 (fun x hx' => hx x (List.mem_cons_of_mem _ hx')) (by simp only [List.length_append, List.length_cons, List.length_nil] at hb ⊢; omega)
   rw [List.append_assoc] at this
   exact this
  | false =>
   simp only [Bool.false_eq_true, if_false]
   refine Ev.bnd hnx ?_
   rw [List.filter_cons_of_neg (by rw [he]; decide)]
   exact ih b acc hs.2 (fun x hx' => hx x (List.mem_cons_of_mem _ hx')) (by simp only [List.length_cons] at hb ⊢; omega)
theorem all_f (l : List PI) (r : List RG) (hl : l.length ≤ 40) (hr : r.length ≤ 1000) (s : Nat) (hs : s ≤ 3) : Ev (fun k => cohousingref30_all.f k l r (s : Int)) (exs l r s) := by
 unfold cohousingref30_all.f exs
 by_cases h : (s : Int) > (l.length : Int)
 ·simp only [h, if_true]
  rw [combos_long (by rw [iv_len]; omega)]
  exact Ev.pure _
 ·simp only [h, if_false]
  refine Ev.bnd (first_f s (by omega)) ?_
  obtain ⟨rest, hh⟩ := combos_head s 0 l.length (by omega)
  have hst := combos_steps (l.length : Int) l.length 0 s (by omega) (by omega)
  have hcnt := combos_count (iv 0 l.length) s
  rw [iv_len] at hcnt
  have hcnt2 : (l.length + 1) ^ s ≤ 42 ^ s := Nat.pow_le_pow_left (by omega) s
  have := pow42 hs
  rw [hh] at hst hcnt ⊢
  have hall := all_l0 l r hl hr rest (iv 0 s) [] hst (fun x hx => by
   rw [← hh] at hx
   have := mem_combos.1 hx
   exact ⟨combos_in hx, by omega⟩) (by simp only [List.length_cons, List.length_nil] at hcnt ⊢; omega)
  rw [List.nil_append] at hall
  exact hall
theorem smallest_l0 (l : List PI) (r : List RG) (hl : l.length ≤ 40) (hr : r.length ≤ 1000) (m : Nat) (hm : m ≤ 3) : ∀ (d s : Nat), s + d = m + 1 → Ev (fun k => cohousingref30_smallest.l0 k l r (m : Int) (s : Int)) (smallR l r s d) := by
 intro d
 induction d with
 | zero =>
  intro s hs
  refine Ev.step ?_
  have h1 : ¬ ((s : Int) ≤ (m : Int)) := by omega
  simp only [cohousingref30_smallest.l0, h1, if_false]
  exact Ev.pure _
 | succ d ih =>
  intro s hs
  refine Ev.step ?_
  have h1 : (s : Int) ≤ (m : Int) := by omega
  simp only [cohousingref30_smallest.l0, h1, if_true]
  refine Ev.bnd (all_f l r hl hr s (by omega)) ?_
  unfold smallR
  by_cases h : exs l r s = []
  ·have h2 : ¬ (((exs l r s).length : Int) > 0) := by rw [h]; simp
   simp only [h2, if_false, wrap_nat (show s ≤ 140737488355328 by omega)]
   rw [if_pos h]
   exact ih (s + 1) (by omega)
  ·have h2 : ((exs l r s).length : Int) > 0 := by have := List.length_pos_iff.2 h; omega
   simp only [h2, if_true]
   rw [if_neg h]
   exact Ev.pure _
theorem smallest_f (l : List PI) (r : List RG) (hl : l.length ≤ 40) (hr : r.length ≤ 1000) (m : Nat) (hm : m ≤ 3) : Ev (fun k => cohousingref30_smallest.f k l r (m : Int)) (smallR l r 0 (m + 1)) := smallest_l0 l r hl hr m hm (m + 1) 0 (by omega)
theorem check_f (l : List PI) (r : List RG) (a : Int) (hl : l.length ≤ 140737488355328) (hr : r.length ≤ 140737488355328) : Ev (fun k => cohousingref30_check.f k l r a) (houseE l r a) := by
 have hbel : cohousingref28_Belongs.f l r = some (belongsB l.length r) := by unfold cohousingref28_Belongs.f; rw [if_pos ⟨hl, hr⟩]
 have e1 : (¬ Good l r ∨ a < 0 ∨ 3 < a) → houseE l r a = 1 := fun h => by
  unfold houseE
  rw [if_pos (by rw [bounds_one]; exact h)]
 have e2 : Good l r → ¬ a < 0 → ¬ a > 3 → 40 < l.length → houseE l r a = 2 := fun hg h1 h2 h3 => by
  unfold houseE
  rw [if_neg (by rw [bounds_one]; rintro (h | h | h); exact h hg; exact h1 h; exact h2 h), if_pos h3]
 have e3 : Good l r → ¬ a < 0 → ¬ a > 3 → ¬ 40 < l.length → houseE l r a = 0 := fun hg h1 h2 h3 => by
  unfold houseE
  rw [if_neg (by rw [bounds_one]; rintro (h | h | h); exact h hg; exact h1 h; exact h2 h), if_neg h3]
 unfold cohousingref30_check.f
 refine Ev.bnd (valid_f l hl) ?_
 simp only [hbel, Option.bind_some]
 by_cases hg : Good l r
 ·have hgi := (good_iff l r).1 hg
  rw [decide_eq_true hgi.1]
  simp only [if_true, hgi.2]
  by_cases h1 : a < 0
  ·rw [e1 (.inr (.inl h1))]
   simp only [h1, if_true]
   refine Ev.step ?_
   simp only [cohousingref30_check.j0, if_true]
   exact Ev.pure _
  ·simp only [h1, if_false]
   refine Ev.step ?_
   by_cases h2 : a > 3
   ·rw [e1 (.inr (.inr h2))]
    simp only [cohousingref30_check.j0, decide_eq_true h2, if_true]
    exact Ev.pure _
   ·simp only [cohousingref30_check.j0, decide_eq_false h2, Bool.false_eq_true, if_false]
    by_cases h3 : (l.length : Int) > 40
    ·rw [e2 hg h1 h2 (by omega)]
     simp only [h3, if_true]
     exact Ev.pure _
    ·rw [e3 hg h1 h2 (by omega)]
     simp only [h3, if_false]
     exact Ev.pure _
 ·rw [e1 (.inl hg)]
  by_cases hv : okL l ∧ l.length ≤ 200
  ·have hb : belongsB l.length r = false := by
    cases h : belongsB l.length r with
    | false => rfl
    | true => exact absurd ((good_iff l r).2 ⟨hv, h⟩) hg
   rw [decide_eq_true hv]
   simp only [if_true, hb, Bool.false_eq_true, if_false]
   refine Ev.step ?_
   simp only [cohousingref30_check.j0, if_true]
   exact Ev.pure _
  ·rw [decide_eq_false hv]
   simp only [Bool.false_eq_true, if_false]
   refine Ev.step ?_
   simp only [cohousingref30_check.j0, if_true]
   exact Ev.pure _
theorem houseE_good {l : List PI} {r : List RG} {a : Int} (h : houseE l r a = 0) : Good l r := by
 unfold houseE at h
 rcases Decidable.em (Good l r) with hg | hg
 ·exact hg
 ·rw [if_pos (.inl ((bounds_one l r).2 hg))] at h
  exact absurd h (by decide)
theorem explain_ref (l : List PI) (r : List RG) (a : Int) (hl : l.length ≤ 140737488355328) (hr : r.length ≤ 1000) : Ev (fun k => cohousingref30_Explain.f k l r a) (explainR l r a) := by
 unfold cohousingref30_Explain.f explainR
 refine Ev.bnd (check_f l r a hl (by omega)) ?_
 by_cases h : houseE l r a = 0
 ·have h0 := houseE_0 h
  simp only [h, if_true]
  obtain ⟨m, hm⟩ : ∃ m : Nat, a = (m : Int) := ⟨a.toNat, by omega⟩
  subst hm
  rw [Int.toNat_natCast, smallM_eq (houseE_good h) _ _ (fun t ht => by omega)]
  refine Ev.bnd (smallest_f l r h0.1 hr m (by omega)) ?_
  cases hx : smallR l r 0 (m + 1) with
  | nil =>
   simp only [List.length_nil, Int.natCast_zero, if_true]
   exact Ev.pure _
  | cons s rest =>
   have h1 : ¬ (((s :: rest).length : Int) = 0) := by rw [List.length_cons]; omega
   have h2 : (0 : Int) < ((s :: rest).length : Int) := by rw [List.length_cons]; omega
   simp only [h1, h2, if_true, if_false]
   exact Ev.pure _
 ·simp only [h, if_false]
  exact Ev.pure _
end Go.Proofs.Ytolmjhpapidmhaa.P
end
section
namespace Go.Proofs.Ytolmjhpapidmhaa.P
open Go.RowKit Go.Proofs.YtolmjhpapidmhaaW.PrintWords Go.Proofs.YtolmjhpapidmhaaW.PrintLast Go.Proofs.YtolmjhpapidmhaaW.PrintMore
attribute [local go_sem] max2_int min2_int max_two min_two max_three min_three max_four min_four
set_option linter.unusedVariables false
set_option linter.unusedSimpArgs false
set_option maxHeartbeats 8000000
set_option maxRecDepth 100000
section
def cohousinglaw30_usable.f (k : Nat) (l0 : List (S44)) (l1 : List (S46)) (a2 : Int) : Option (Bool) := (cohousingref30_Few.f l0 l1).bind fun t367 => (if t367 = true then ((cohousingref28_Valid.f k l0).bind fun t368 => (if t368 = true then ((cohousingref28_Belongs.f l0 l1).bind fun t369 => (if t369 = true then (if a2 ≥ 0 then (some (decide (a2 ≤ 3))) else (some false)) else (some false))) else (some false))) else (some false))
theorem cohousinglaw30_usable.mono : ∀ a0 a1 a2 k, LeO (cohousinglaw30_usable.f k a0 a1 a2) (cohousinglaw30_usable.f (k + 1) a0 a1 a2) := by
 intro a0 a1 a2 k
 unfold cohousinglaw30_usable.f
 repeat' first
   | (with_reducible exact cohousingref28_Valid.mono _ _)
   | (with_reducible exact LeO.refl _)
   | (with_reducible exact LeO.none _)
   | (with_reducible refine LeO.ite ?_ ?_)
   | (with_reducible refine LeO.bind ?_ (fun _ => ?_))
   | exact cohousingref28_Valid.mono _ _
   | exact LeO.none _
   | refine LeO.ite ?_ ?_
   | refine LeO.bind ?_ (fun _ => ?_)
theorem cohousinglaw30_usable.calls (k : Nat) (A0 : Option Addr) (c0 : Nat) (l0 : List (S44)) (A1 : Option Addr) (c1 : Nat) (l1 : List (S46)) (a2 : Int) (r : Bool) (w : World) (hr0 : Kd.C k44 w A0 l0.length l0) (hc0 : l0.length ≤ c0) (hr1 : Kd.C k46 w A1 l1.length l1) (hc1 : l1.length ≤ c1) (h : cohousinglaw30_usable.f k l0 l1 a2 = some r) :
  Calls Try.prog 18 #[.slice A0 l0.length c0, .slice A1 l1.length c1, .int .i64 a2] w fun e w' => e = .returned (.bool r) ∧ Below w.heap.size w w' := by
 have HR0 := Aside0.mk hr0
 have HC0 := Aside0.mk hc0
 clear hr0 hc0
 have HR1 := Aside0.mk hr1
 have HC1 := Aside0.mk hc1
 clear hr1 hc1
 have HB := Aside0.mk (Below.refl w.heap.size w)
 have H : ((cohousingref30_Few.f l0 l1).bind fun t367 => (if t367 = true then ((cohousingref28_Valid.f k l0).bind fun t368 => (if t368 = true then ((cohousingref28_Belongs.f l0 l1).bind fun t369 => (if t369 = true then (if a2 ≥ 0 then (some (decide (a2 ≤ 3))) else (some false)) else (some false))) else (some false))) else (some false))) = some r := h
 clear h
 replace H := Option.bind_eq_some_iff.mp H
 obtain ⟨t367, A40, H⟩ := H
 replace H : (if t367 = true then ((cohousingref28_Valid.f k l0).bind fun t368 => (if t368 = true then ((cohousingref28_Belongs.f l0 l1).bind fun t369 => (if t369 = true then (if a2 ≥ 0 then (some (decide (a2 ≤ 3))) else (some false)) else (some false))) else (some false))) else (some false)) = some r := H
 have A4 := Aside0.mk A40
 clear A40
 by_cases c5 : t367 = true
 ·subst c5
  have H1 : ((cohousingref28_Valid.f k l0).bind fun t368 => (if t368 = true then ((cohousingref28_Belongs.f l0 l1).bind fun t369 => (if t369 = true then (if a2 ≥ 0 then (some (decide (a2 ≤ 3))) else (some false)) else (some false))) else (some false))) = some r := by rw [if_pos rfl] at H; exact H
  clear H
  have H := H1
  clear H1
  replace H := Option.bind_eq_some_iff.mp H
  obtain ⟨t368, A60, H⟩ := H
  replace H : (if t368 = true then ((cohousingref28_Belongs.f l0 l1).bind fun t369 => (if t369 = true then (if a2 ≥ 0 then (some (decide (a2 ≤ 3))) else (some false)) else (some false))) else (some false)) = some r := H
  have A6 := Aside0.mk A60
  clear A60
  by_cases c7 : t368 = true
  ·subst c7
   have H1 : ((cohousingref28_Belongs.f l0 l1).bind fun t369 => (if t369 = true then (if a2 ≥ 0 then (some (decide (a2 ≤ 3))) else (some false)) else (some false))) = some r := by rw [if_pos rfl] at H; exact H
   clear H
   have H := H1
   clear H1
   replace H := Option.bind_eq_some_iff.mp H
   obtain ⟨t369, A80, H⟩ := H
   replace H : (if t369 = true then (if a2 ≥ 0 then (some (decide (a2 ≤ 3))) else (some false)) else (some false)) = some r := H
   have A8 := Aside0.mk A80
   clear A80
   by_cases c9 : t369 = true
   ·subst c9
    have H1 : (if a2 ≥ 0 then (some (decide (a2 ≤ 3))) else (some false)) = some r := by rw [if_pos rfl] at H; exact H
    clear H
    have H := H1
    clear H1
    by_cases c10 : a2 ≥ 0
    ·rw [if_pos c10] at H
     have c10b0 : decide (0 ≤ a2) = true := decide_eq_true c10
     clear c10
     obtain rfl := Option.some.inj H
     go_enter Try.func18, Try.ntmps18
     go_wp2_with (first | ((with_reducible refine gate_callee (f := 12) rfl ?_); refine gl_ (some 9) Try.func12 #[.slice A0 l0.length c0, .slice A1 l1.length c1] ?_; (with_reducible refine (cohousingref30_Few.calls _ _ l0 _ _ l1 true _ ?side1 ?side2 ?side3 ?side4 A4.out).mono ?_); (case side1 => exact cc_ (HR0.out)); (case side2 => exact HC0.out); (case side3 => exact cc_ (HR1.out)); (case side4 => exact HC1.out); rintro e w' ⟨rfl, ⟨nd, rfl⟩⟩; refine ⟨_, rfl, ?_⟩) | (go_at_call 23; (with_reducible refine (cohousingref28_Valid.calls k _ _ l0 true _ ?side1 ?side2 A6.out).mono ?_); (case side1 => exact cc_ (HR0.out)); (case side2 => exact HC0.out); rintro e w11 ⟨rfl, hb⟩; have n0_ := Aside0.mk (below_step (bb_ HB) hb); clear HB; have HB := n0_; clear n0_; (try clear hb); (try clear hb2); (try clear hk); (try clear hi)) | (go_at_call 34; (with_reducible refine (cohousingref28_Belongs.calls _ _ l0 _ _ l1 true _ ?side1 ?side2 ?side3 ?side4 A8.out).mono ?_); (case side1 => exact cc_ ((Kd.C_below HR0.out HB.out))); (case side2 => exact HC0.out); (case side3 => exact cc_ ((Kd.C_below HR1.out HB.out))); (case side4 => exact HC1.out); rintro e w12 ⟨rfl, hb⟩; have n0_ := Aside0.mk (below_step (bb_ HB) hb); clear HB; have HB := n0_; clear n0_; (try clear hb); (try clear hb2); (try clear hk); (try clear hi)))
     go_ret
     exact ⟨ew_, by repeat (first | (with_reducible first | exact HB.out | apply below_alloc | apply pw_below_drewN | apply below_drew1) | exact HB.out)⟩
    ·rw [if_neg c10] at H
     have c10b0 : decide (0 ≤ a2) = false := decide_eq_false c10
     clear c10
     obtain rfl := Option.some.inj H
     go_enter Try.func18, Try.ntmps18
     go_wp2_with (first | ((with_reducible refine gate_callee (f := 12) rfl ?_); refine gl_ (some 9) Try.func12 #[.slice A0 l0.length c0, .slice A1 l1.length c1] ?_; (with_reducible refine (cohousingref30_Few.calls _ _ l0 _ _ l1 true _ ?side1 ?side2 ?side3 ?side4 A4.out).mono ?_); (case side1 => exact cc_ (HR0.out)); (case side2 => exact HC0.out); (case side3 => exact cc_ (HR1.out)); (case side4 => exact HC1.out); rintro e w' ⟨rfl, ⟨nd, rfl⟩⟩; refine ⟨_, rfl, ?_⟩) | (go_at_call 23; (with_reducible refine (cohousingref28_Valid.calls k _ _ l0 true _ ?side1 ?side2 A6.out).mono ?_); (case side1 => exact cc_ (HR0.out)); (case side2 => exact HC0.out); rintro e w13 ⟨rfl, hb⟩; have n0_ := Aside0.mk (below_step (bb_ HB) hb); clear HB; have HB := n0_; clear n0_; (try clear hb); (try clear hb2); (try clear hk); (try clear hi)) | (go_at_call 34; (with_reducible refine (cohousingref28_Belongs.calls _ _ l0 _ _ l1 true _ ?side1 ?side2 ?side3 ?side4 A8.out).mono ?_); (case side1 => exact cc_ ((Kd.C_below HR0.out HB.out))); (case side2 => exact HC0.out); (case side3 => exact cc_ ((Kd.C_below HR1.out HB.out))); (case side4 => exact HC1.out); rintro e w14 ⟨rfl, hb⟩; have n0_ := Aside0.mk (below_step (bb_ HB) hb); clear HB; have HB := n0_; clear n0_; (try clear hb); (try clear hb2); (try clear hk); (try clear hi)))
     go_ret
     exact ⟨ew_, by repeat (first | (with_reducible first | exact HB.out | apply below_alloc | apply pw_below_drewN | apply below_drew1) | exact HB.out)⟩
   ·replace c9 := Bool.eq_false_iff.mpr c9
    subst c9
    have H1 : (some false) = some r := by rw [if_neg (show ¬ (false = true) by decide)] at H; exact H
    clear H
    have H := H1
    clear H1
    obtain rfl := Option.some.inj H
    go_enter Try.func18, Try.ntmps18
    go_wp2_with (first | ((with_reducible refine gate_callee (f := 12) rfl ?_); refine gl_ (some 9) Try.func12 #[.slice A0 l0.length c0, .slice A1 l1.length c1] ?_; (with_reducible refine (cohousingref30_Few.calls _ _ l0 _ _ l1 true _ ?side1 ?side2 ?side3 ?side4 A4.out).mono ?_); (case side1 => exact cc_ (HR0.out)); (case side2 => exact HC0.out); (case side3 => exact cc_ (HR1.out)); (case side4 => exact HC1.out); rintro e w' ⟨rfl, ⟨nd, rfl⟩⟩; refine ⟨_, rfl, ?_⟩) | (go_at_call 23; (with_reducible refine (cohousingref28_Valid.calls k _ _ l0 true _ ?side1 ?side2 A6.out).mono ?_); (case side1 => exact cc_ (HR0.out)); (case side2 => exact HC0.out); rintro e w15 ⟨rfl, hb⟩; have n0_ := Aside0.mk (below_step (bb_ HB) hb); clear HB; have HB := n0_; clear n0_; (try clear hb); (try clear hb2); (try clear hk); (try clear hi)) | (go_at_call 34; (with_reducible refine (cohousingref28_Belongs.calls _ _ l0 _ _ l1 false _ ?side1 ?side2 ?side3 ?side4 A8.out).mono ?_); (case side1 => exact cc_ ((Kd.C_below HR0.out HB.out))); (case side2 => exact HC0.out); (case side3 => exact cc_ ((Kd.C_below HR1.out HB.out))); (case side4 => exact HC1.out); rintro e w16 ⟨rfl, hb⟩; have n0_ := Aside0.mk (below_step (bb_ HB) hb); clear HB; have HB := n0_; clear n0_; (try clear hb); (try clear hb2); (try clear hk); (try clear hi)))
    go_ret
    exact ⟨ew_, by repeat (first | (with_reducible first | exact HB.out | apply below_alloc | apply pw_below_drewN | apply below_drew1) | exact HB.out)⟩
  ·replace c7 := Bool.eq_false_iff.mpr c7
   subst c7
   have H1 : (some false) = some r := by rw [if_neg (show ¬ (false = true) by decide)] at H; exact H
   clear H
   have H := H1
   clear H1
   obtain rfl := Option.some.inj H
   go_enter Try.func18, Try.ntmps18
   go_wp2_with (first | ((with_reducible refine gate_callee (f := 12) rfl ?_); refine gl_ (some 9) Try.func12 #[.slice A0 l0.length c0, .slice A1 l1.length c1] ?_; (with_reducible refine (cohousingref30_Few.calls _ _ l0 _ _ l1 true _ ?side1 ?side2 ?side3 ?side4 A4.out).mono ?_); (case side1 => exact cc_ (HR0.out)); (case side2 => exact HC0.out); (case side3 => exact cc_ (HR1.out)); (case side4 => exact HC1.out); rintro e w' ⟨rfl, ⟨nd, rfl⟩⟩; refine ⟨_, rfl, ?_⟩) | (go_at_call 23; (with_reducible refine (cohousingref28_Valid.calls k _ _ l0 false _ ?side1 ?side2 A6.out).mono ?_); (case side1 => exact cc_ (HR0.out)); (case side2 => exact HC0.out); rintro e w17 ⟨rfl, hb⟩; have n0_ := Aside0.mk (below_step (bb_ HB) hb); clear HB; have HB := n0_; clear n0_; (try clear hb); (try clear hb2); (try clear hk); (try clear hi)))
   go_ret
   exact ⟨ew_, by repeat (first | (with_reducible first | exact HB.out | apply below_alloc | apply pw_below_drewN | apply below_drew1) | exact HB.out)⟩
 ·replace c5 := Bool.eq_false_iff.mpr c5
  subst c5
  have H1 : (some false) = some r := by rw [if_neg (show ¬ (false = true) by decide)] at H; exact H
  clear H
  have H := H1
  clear H1
  obtain rfl := Option.some.inj H
  go_enter Try.func18, Try.ntmps18
  go_wp2_with (first | ((with_reducible refine gate_callee (f := 12) rfl ?_); refine gl_ (some 9) Try.func12 #[.slice A0 l0.length c0, .slice A1 l1.length c1] ?_; (with_reducible refine (cohousingref30_Few.calls _ _ l0 _ _ l1 false _ ?side1 ?side2 ?side3 ?side4 A4.out).mono ?_); (case side1 => exact cc_ (HR0.out)); (case side2 => exact HC0.out); (case side3 => exact cc_ (HR1.out)); (case side4 => exact HC1.out); rintro e w' ⟨rfl, ⟨nd, rfl⟩⟩; refine ⟨_, rfl, ?_⟩))
  go_ret
  exact ⟨ew_, by repeat (first | (with_reducible first | exact HB.out | apply below_alloc | apply pw_below_drewN | apply below_drew1) | exact HB.out)⟩
end
section
def cohousinglaw30_explains.l0 : Nat → List (S44) → List (S46) → List Int → List Int → Int → Int → Option (Bool)
 | 0, _, _, _, _, _, _ => none
 | k + 1, x0, x1, x2, x11, x12, x13 => if x13 < x12 then (if 0 ≤ x13 then (if x13 < (x11.length : Int) then (if (rd x11 x13) < 0 then (some false) else (if (rd x11 x13) ≥ (x0.length : Int) then (some false) else (if x13 > 0 then (if 0 ≤ (wrap64 (x13 - 1)) then (if (wrap64 (x13 - 1)) < (x2.length : Int) then (if (rd x11 x13) ≤ (rd x2 (wrap64 (x13 - 1))) then (some false) else (cohousinglaw30_explains.l0 k x0 x1 x2 x11 x12 (wrap64 (x13 + 1)))) else (none)) else (none)) else (cohousinglaw30_explains.l0 k x0 x1 x2 x11 x12 (wrap64 (x13 + 1)))))) else (none)) else (none)) else ((cohousingref30_Leaking.f k x0 x2).bind fun t372 => ((flow_Bounds.f t372 x1).bind fun bt375 => (some (bt375.2 == 0))))
def cohousinglaw30_explains.f (k : Nat) (l0 : List (S44)) (l1 : List (S46)) (l2 : List Int) : Option (Bool) := cohousinglaw30_explains.l0 k l0 l1 l2 l2 (l2.length : Int) 0
theorem cohousinglaw30_explains.mono_l : ∀ k, (∀ y0 y1 y2 y3 y4 y5, LeO (cohousinglaw30_explains.l0 k y0 y1 y2 y3 y4 y5) (cohousinglaw30_explains.l0 (k + 1) y0 y1 y2 y3 y4 y5))
 | 0 => fun _ _ _ _ _ _ r h => by simp [cohousinglaw30_explains.l0] at h
 | k + 1 => by
  have ih0 := cohousinglaw30_explains.mono_l k
  ·intro y0 y1 y2 y3 y4 y5
   unfold cohousinglaw30_explains.l0
   repeat' first
   | (with_reducible exact ih0 _ _ _ _ _ _)
   | (with_reducible exact cohousingref30_Leaking.mono _ _ _)
   | (with_reducible exact LeO.refl _)
   | (with_reducible exact LeO.none _)
   | (with_reducible refine LeO.ite ?_ ?_)
   | (with_reducible refine LeO.bind ?_ (fun _ => ?_))
   | exact ih0 _ _ _ _ _ _
   | exact cohousingref30_Leaking.mono _ _ _
   | exact LeO.none _
   | refine LeO.ite ?_ ?_
   | refine LeO.bind ?_ (fun _ => ?_)
theorem cohousinglaw30_explains.mono : ∀ a0 a1 a2 k, LeO (cohousinglaw30_explains.f k a0 a1 a2) (cohousinglaw30_explains.f (k + 1) a0 a1 a2) := by
 intro a0 a1 a2 k
 have ih0 := cohousinglaw30_explains.mono_l k
 unfold cohousinglaw30_explains.f
 repeat' first
   | (with_reducible exact ih0 _ _ _ _ _ _)
   | (with_reducible exact cohousingref30_Leaking.mono _ _ _)
   | (with_reducible exact LeO.refl _)
   | (with_reducible exact LeO.none _)
   | (with_reducible refine LeO.ite ?_ ?_)
   | (with_reducible refine LeO.bind ?_ (fun _ => ?_))
   | exact ih0 _ _ _ _ _ _
   | exact cohousingref30_Leaking.mono _ _ _
   | exact LeO.none _
   | refine LeO.ite ?_ ?_
   | refine LeO.bind ?_ (fun _ => ?_)
theorem cohousinglaw30_explains.calls (k : Nat) (A0 : Option Addr) (c0 : Nat) (l0 : List (S44)) (A1 : Option Addr) (c1 : Nat) (l1 : List (S46)) (A2 : Option Addr) (c2 : Nat) (l2 : List Int) (r : Bool) (w : World) (hr0 : Kd.C k44 w A0 l0.length l0) (hc0 : l0.length ≤ c0) (hr1 : Kd.C k46 w A1 l1.length l1) (hc1 : l1.length ≤ c1) (hr2 : Kd.C (Kd.int .i64) w A2 l2.length l2) (hc2 : l2.length ≤ c2) (h : cohousinglaw30_explains.f k l0 l1 l2 = some r) :
  Calls Try.prog 19 #[.slice A0 l0.length c0, .slice A1 l1.length c1, .slice A2 l2.length c2] w fun e w' => e = .returned (.bool r) ∧ Below w.heap.size w w' := by
 have HR0 := Aside0.mk hr0
 have HC0 := Aside0.mk hc0
 clear hr0 hc0
 have HR1 := Aside0.mk hr1
 have HC1 := Aside0.mk hc1
 clear hr1 hc1
 have HR2 := Aside0.mk hr2
 have HC2 := Aside0.mk hc2
 clear hr2 hc2
 have HB := Aside0.mk (Below.refl w.heap.size w)
 have H : (cohousinglaw30_explains.l0 k l0 l1 l2 l2 (l2.length : Int) 0) = some r := h
 clear h
 have H' := Aside0.mk H
 clear H
 go_enter Try.func19, Try.ntmps19
 go_wp2
 go_loopg [13] k (fun kq v13 w' => ∃ (x13_1 : Int), v13 = .int .i64 x13_1 ∧ Aside0 (cohousinglaw30_explains.l0 kq l0 l1 l2 l2 (l2.length : Int) x13_1 = some r) ∧ Aside0 (kq ≤ k) ∧ Aside0 (Below w.heap.size w w'))
 case atStart => exact ⟨(0), sd_, H', ⟨Nat.le_refl _⟩, ⟨by repeat (first | (with_reducible first | exact HB.out | apply below_alloc | apply pw_below_drewN | apply below_drew1) | exact HB.out)⟩⟩
 case round =>
  clear H'
  try clear c1
  try clear c2
  try clear p2
  obtain ⟨x13_1, rfl, HA, HK1, HB⟩ := hrel
  cases gk with
  | zero => exact absurd HA.out (by simp [cohousinglaw30_explains.l0])
  | succ k1 =>
   have H := HA.out
   clear HA
   simp only [cohousinglaw30_explains.l0] at H
   by_cases c4 : x13_1 < (l2.length : Int)
   ·rw [if_pos c4] at H
    have c4b0 : decide (x13_1 < (l2.length : Int)) = true := decide_eq_true c4
    clear c4
    by_cases c5 : 0 ≤ x13_1
    ·rw [if_pos c5] at H
     have c5b0 : decide (0 ≤ x13_1) = true := decide_eq_true c5
     clear c5
     by_cases c6 : x13_1 < (l2.length : Int)
     ·rw [if_pos c6] at H
      have c6b0 : decide (x13_1 < (l2.length : Int)) = true := decide_eq_true c6
      clear c6
      by_cases c7 : (rd l2 x13_1) < 0
      ·rw [if_pos c7] at H
       have c7b0 : decide ((rd l2 x13_1) < 0) = true := decide_eq_true c7
       clear c7
       obtain rfl := Option.some.inj H
       have p370 : 0 ≤ (x13_1 : Int) := od_
       have q370 : x13_1 < (l2.length : Int) := od_
       obtain ⟨ad370, e370, hx370_0⟩ := Kd.at_int HR2.out x13_1 p370 q370
       cases e370
       replace hx370_0 := (HB.out.cell (World.block_lt_of_cell? w _ hx370_0)).trans hx370_0
       replace p370 := eq_true p370
       replace q370 := eq_true q370
       go_wp2
       go_ret
       exact ⟨ew_, by repeat (first | (with_reducible first | exact HB.out | apply below_alloc | apply pw_below_drewN | apply below_drew1) | exact HB.out)⟩
      ·rw [if_neg c7] at H
       have c7b0 : decide ((rd l2 x13_1) < 0) = false := decide_eq_false c7
       clear c7
       by_cases c8 : (rd l2 x13_1) ≥ (l0.length : Int)
       ·rw [if_pos c8] at H
        have c8b0 : decide ((l0.length : Int) ≤ (rd l2 x13_1)) = true := decide_eq_true c8
        clear c8
        obtain rfl := Option.some.inj H
        have p370 : 0 ≤ (x13_1 : Int) := od_
        have q370 : x13_1 < (l2.length : Int) := od_
        obtain ⟨ad370, e370, hx370_0⟩ := Kd.at_int HR2.out x13_1 p370 q370
        cases e370
        replace hx370_0 := (HB.out.cell (World.block_lt_of_cell? w _ hx370_0)).trans hx370_0
        replace p370 := eq_true p370
        replace q370 := eq_true q370
        go_wp2
        go_ret
        exact ⟨ew_, by repeat (first | (with_reducible first | exact HB.out | apply below_alloc | apply pw_below_drewN | apply below_drew1) | exact HB.out)⟩
       ·rw [if_neg c8] at H
        have c8b0 : decide ((l0.length : Int) ≤ (rd l2 x13_1)) = false := decide_eq_false c8
        clear c8
        by_cases c9 : x13_1 > 0
        ·rw [if_pos c9] at H
         have c9b0 : decide (0 < x13_1) = true := decide_eq_true c9
         clear c9
         obtain ⟨ji10, hji10⟩ : ∃ j_ : Int, (wrap64 (x13_1 - 1)) = j_ := ⟨_, rfl⟩
         replace H : (if 0 ≤ (ji10) then (if (ji10) < (l2.length : Int) then (if (rd l2 x13_1) ≤ (rd l2 (ji10)) then (some false) else (cohousinglaw30_explains.l0 k1 l0 l1 l2 l2 (l2.length : Int) (wrap64 (x13_1 + 1)))) else (none)) else (none)) = some r := by first | (rw [hji10] at H; exact H) | (simp only [hji10] at H ⊢; exact H)
         have hji10w : (IntKind.i64.wrap (x13_1 - 1)) = ji10 := (i64_w _).trans hji10
         by_cases c11 : 0 ≤ (ji10)
         ·rw [if_pos c11] at H
          have c11b0 : decide (0 ≤ (ji10)) = true := decide_eq_true c11
          clear c11
          by_cases c12 : (ji10) < (l2.length : Int)
          ·rw [if_pos c12] at H
           have c12b0 : decide ((ji10) < (l2.length : Int)) = true := decide_eq_true c12
           clear c12
           by_cases c13 : (rd l2 x13_1) ≤ (rd l2 (ji10))
           ·rw [if_pos c13] at H
            have c13b0 : decide ((rd l2 x13_1) ≤ (rd l2 (ji10))) = true := decide_eq_true c13
            clear c13
            obtain rfl := Option.some.inj H
            have p370 : 0 ≤ (x13_1 : Int) := od_
            have q370 : x13_1 < (l2.length : Int) := od_
            obtain ⟨ad370, e370, hx370_0⟩ := Kd.at_int HR2.out x13_1 p370 q370
            cases e370
            replace hx370_0 := (HB.out.cell (World.block_lt_of_cell? w _ hx370_0)).trans hx370_0
            replace p370 := eq_true p370
            replace q370 := eq_true q370
            have p371 : 0 ≤ ((ji10) : Int) := od_
            have q371 : (ji10) < (l2.length : Int) := od_
            obtain ⟨ad371, e371, hx371_0⟩ := Kd.at_int HR2.out (ji10) p371 q371
            obtain rfl : ad370 = ad371 := (by injection e371)
            replace hx371_0 := (HB.out.cell (World.block_lt_of_cell? w _ hx371_0)).trans hx371_0
            replace p371 := eq_true p371
            replace q371 := eq_true q371
            go_wp2
            go_ret
            exact ⟨by first | rfl | (simp [errW_none, errW_some] <;> rfl) | (simp only [← hji10]; first | rfl | (simp [errW_none, errW_some] <;> rfl)) | (simp [*, errW_none, errW_some] <;> rfl), by repeat (first | (with_reducible first | exact HB.out | apply below_alloc | apply pw_below_drewN | apply below_drew1) | exact HB.out)⟩
           ·rw [if_neg c13] at H
            have c13b0 : decide ((rd l2 x13_1) ≤ (rd l2 (ji10))) = false := decide_eq_false c13
            clear c13
            have H' := Aside0.mk H
            clear H
            have p370 : 0 ≤ (x13_1 : Int) := od_
            have q370 : x13_1 < (l2.length : Int) := od_
            obtain ⟨ad370, e370, hx370_0⟩ := Kd.at_int HR2.out x13_1 p370 q370
            cases e370
            replace hx370_0 := (HB.out.cell (World.block_lt_of_cell? w _ hx370_0)).trans hx370_0
            replace p370 := eq_true p370
            replace q370 := eq_true q370
            have p371 : 0 ≤ ((ji10) : Int) := od_
            have q371 : (ji10) < (l2.length : Int) := od_
            obtain ⟨ad371, e371, hx371_0⟩ := Kd.at_int HR2.out (ji10) p371 q371
            obtain rfl : ad370 = ad371 := (by injection e371)
            replace hx371_0 := (HB.out.cell (World.block_lt_of_cell? w _ hx371_0)).trans hx371_0
            replace p371 := eq_true p371
            replace q371 := eq_true q371
            go_wp2
            go_roundg k1
            case measure => have := HK1.out; omega
            case rel => exact ⟨(wrap64 (x13_1 + 1)), sd_, H', ⟨by have := HK1.out; omega⟩, ⟨by repeat (first | (with_reducible first | exact HB.out | apply below_alloc | apply pw_below_drewN | apply below_drew1) | exact HB.out)⟩⟩
          ·rw [if_neg c12] at H
           exact absurd H (by simp)
         ·rw [if_neg c11] at H
          exact absurd H (by simp)
        ·rw [if_neg c9] at H
         have c9b0 : decide (0 < x13_1) = false := decide_eq_false c9
         clear c9
         have H' := Aside0.mk H
         clear H
         have p370 : 0 ≤ (x13_1 : Int) := od_
         have q370 : x13_1 < (l2.length : Int) := od_
         obtain ⟨ad370, e370, hx370_0⟩ := Kd.at_int HR2.out x13_1 p370 q370
         cases e370
         replace hx370_0 := (HB.out.cell (World.block_lt_of_cell? w _ hx370_0)).trans hx370_0
         replace p370 := eq_true p370
         replace q370 := eq_true q370
         go_wp2
         go_roundg k1
         case measure => have := HK1.out; omega
         case rel => exact ⟨(wrap64 (x13_1 + 1)), sd_, H', ⟨by have := HK1.out; omega⟩, ⟨by repeat (first | (with_reducible first | exact HB.out | apply below_alloc | apply pw_below_drewN | apply below_drew1) | exact HB.out)⟩⟩
     ·rw [if_neg c6] at H
      exact absurd H (by simp)
    ·rw [if_neg c5] at H
     exact absurd H (by simp)
   ·rw [if_neg c4] at H
    have c4b0 : decide (x13_1 < (l2.length : Int)) = false := decide_eq_false c4
    clear c4
    replace H := Option.bind_eq_some_iff.mp H
    obtain ⟨t372, A140, H⟩ := H
    replace H : ((flow_Bounds.f t372 l1).bind fun bt375 => (some (bt375.2 == 0))) = some r := H
    have A14 := Aside0.mk A140
    clear A140
    replace H := Option.bind_eq_some_iff.mp H
    obtain ⟨⟨t375, t376⟩, A150, H⟩ := H
    replace H : (some (t376 == 0)) = some r := H
    have A15 := Aside0.mk A150
    clear A150
    obtain rfl := Option.some.inj H
    go_wp2_with (first | ((with_reducible refine gate_callee (f := 35) rfl ?_); refine gl_ (some 43) Try.func35 #[.slice A0 l0.length c0, .slice A2 l2.length c2] ?_; (with_reducible refine (cohousingref30_Leaking.calls k1 _ _ l0 _ _ l2 t372 _ ?side1 ?side2 ?side3 ?side4 A14.out).mono ?_); (case side1 => exact cc_ ((Kd.C_below HR0.out HB.out))); (case side2 => exact HC0.out); (case side3 => exact cc_ ((Kd.C_below HR2.out HB.out))); (case side4 => exact HC2.out); rintro e w16 ⟨v373, rfl, ho0, hb⟩; refine ⟨_, rfl, ?_⟩; have n0_ := Aside0.mk (Kd.R_lower ho0 (below_size (bb_ HB))); have n1_ := Aside0.mk (below_step (bb_ HB) hb); clear HB; have HO374 := n0_; have HB := n1_; clear n0_ n1_; (try clear hb); (try clear hb2); (try clear hk); (try clear hi); (try clear ho0); obtain ⟨Ao17, co17, eo17⟩ := Kd.R_slice HO374.out; subst eo17) | ((with_reducible refine gate_callee (f := 22) rfl ?_); refine gl_ (some 45) Try.func22 #[.slice Ao17 t372.length co17, .slice A1 l1.length c1] ?_; (with_reducible refine (flow_Bounds.calls _ _ t372 _ _ l1 t375 t376 _ ?side1 ?side2 ?side3 ?side4 A15.out).mono ?_); (case side1 => exact cc_ ((Kd.R_reads' HO374.out).2.2)); (case side2 => exact (Kd.R_reads' HO374.out).2.1); (case side3 => exact cc_ ((Kd.C_below HR1.out HB.out))); (case side4 => exact HC1.out); rintro e w18 ⟨v377, rfl, ho0, hb⟩; refine ⟨_, rfl, ?_⟩; have n0_ := Aside0.mk (Kd.R_below (rr_ HO374) hb); have n1_ := Aside0.mk (Kd.R_lower ho0 (below_size (bb_ HB))); have n2_ := Aside0.mk (below_step (bb_ HB) hb); clear HO374; clear HB; have HO374 := n0_; have HO378 := n1_; have HB := n2_; clear n0_ n1_ n2_; (try clear hb); (try clear hb2); (try clear hk); (try clear hi); (try clear ho0)))
    go_ret
    exact ⟨ew_, by repeat (first | (with_reducible first | exact HB.out | apply below_alloc | apply pw_below_drewN | apply below_drew1) | exact HB.out)⟩
end
end Go.Proofs.Ytolmjhpapidmhaa.P
end
section
namespace Go.Proofs.Ytolmjhpapidmhaa.P
open Go.RowKit Go.Proofs.YtolmjhpapidmhaaW.PrintWords Go.Proofs.YtolmjhpapidmhaaW.PrintLast Go.Proofs.YtolmjhpapidmhaaW.PrintMore Go.Proofs.YtolmjhpapidmhaaH Go.Proofs.FlowTree
open Classical
theorem has_l0 (l : List Int) (x : Int) (hl : l.length ≤ 140737488355328) : ∀ (d i : Nat), i + d = l.length → Ev (fun k => cohousingref30_Has.l0 k l x (i : Int)) ((l.drop i).contains x) := by
 intro d
 induction d with
 | zero =>
  intro i hi
  refine Ev.step ?_
  have h1 : ¬ ((i : Int) < (l.length : Int)) := by omega
  simp only [cohousingref30_Has.l0, h1, if_false]
  rw [List.drop_of_length_le (by omega)]
  exact Ev.pure _
 | succ d ih =>
  intro i hi
  refine Ev.step ?_
  have h1 : (i : Int) < (l.length : Int) := by omega
  have h2 : (0 : Int) ≤ (i : Int) := by omega
  rw [rd_drop l i (by omega), List.contains_cons]
  by_cases e : rd l (i : Int) = x
  ·simp only [cohousingref30_Has.l0, h1, h2, e, if_true]
   rw [show (x == x) = true from beq_iff_eq.2 rfl, Bool.true_or]
   exact Ev.pure _
  ·simp only [cohousingref30_Has.l0, h1, h2, e, if_true, if_false, wrap_nat (show i ≤ 140737488355328 by omega)]
   rw [beq_eq_false_iff_ne.2 (fun h => e h.symm), Bool.false_or]
   exact ih (i + 1) (by omega)
theorem has_f (l : List Int) (x : Int) (hl : l.length ≤ 140737488355328) : Ev (fun k => cohousingref30_Has.f k l x) (l.contains x) := has_l0 l x hl l.length 0 (by omega)
theorem rdK_drop (X : List (List Int)) (j : Nat) (h : j < X.length) : X.drop j = rd_L3 X (j : Int) :: X.drop (j + 1) := by
 rw [List.drop_eq_getElem_cons h]
 congr 1
 simp [rd_L3, List.getD_eq_getElem?_getD, h]
theorem rdL3_mem (X : List (List Int)) (j : Nat) (h : j < X.length) : rd_L3 X (j : Int) ∈ X := by
 have e : rd_L3 X (j : Int) = X[j] := by simp [rd_L3, List.getD_eq_getElem?_getD, h]
 rw [e]
 exact List.getElem_mem h
theorem sure_l1 (X : List (List Int)) (hX : X.length ≤ 140737488355328) (hXl : ∀ x ∈ X, x.length ≤ 1000) (out : List Int) (i : Nat) (hi : i < (rd_L3 X 0).length) (R : List Int × Int)
  (h0 : 0 < X.length) : ∀ (d j cnt : Nat), j + d = X.length → cnt ≤ j → out.length ≤ 1000 →
  (cnt + (X.drop j).countP (fun t => t.contains (rd (rd_L3 X 0) (i : Int))) = X.length → Ev (fun k => cohousingref30_Sure.l0 k X (out ++ [rd (rd_L3 X 0) (i : Int)]) ((i + 1 : Nat) : Int)) R) →
  (cnt + (X.drop j).countP (fun t => t.contains (rd (rd_L3 X 0) (i : Int))) ≠ X.length → Ev (fun k => cohousingref30_Sure.l0 k X out ((i + 1 : Nat) : Int)) R) →
  Ev (fun k => cohousingref30_Sure.l1 k X out (i : Int) (cnt : Int) (j : Int)) R := by
 have g0 : (0 : Int) < (X.length : Int) := by omega
 have g1 : (0 : Int) ≤ (i : Int) := by omega
 have g2 : (i : Int) < ((rd_L3 X 0).length : Int) := by omega
 have hs0 : (rd_L3 X 0).length ≤ 1000 := hXl _ (rdL3_mem X 0 h0)
 have hw : wrap64 ((i : Int) + 1) = ((i + 1 : Nat) : Int) := wrap_nat (by omega)
 intro d
 induction d with
 | zero =>
  intro j cnt hj hc ho hy hn
  refine Ev.step ?_
  have h1 : ¬ ((j : Int) < (X.length : Int)) := by omega
  rw [List.drop_of_length_le (by omega)] at hy hn
  simp only [List.countP_nil, Nat.add_zero] at hy hn
  by_cases hc2 : cnt = X.length
  ·have h2 : (cnt : Int) = (X.length : Int) := by omega
   have h3 : out.length < 17592186044416 := by omega
   simp only [cohousingref30_Sure.l1, h1, h2, h3, g0, g1, g2, hw, if_true, if_false]
   exact hy hc2
  ·have h2 : ¬ ((cnt : Int) = (X.length : Int)) := by omega
   simp only [cohousingref30_Sure.l1, h1, h2, hw, if_false]
   exact hn hc2
 | succ d ih =>
  intro j cnt hj hc ho hy hn
  refine Ev.step ?_
  have h1 : (j : Int) < (X.length : Int) := by omega
  have h2 : (0 : Int) ≤ (j : Int) := by omega
  have hdr := rdK_drop X j (by omega)
  have hmem : rd_L3 X (j : Int) ∈ X := by
   have : rd_L3 X (j : Int) ∈ X.drop j := by rw [hdr]; simp
   exact List.mem_of_mem_drop this
  simp only [cohousingref30_Sure.l1, h1, h2, g0, g1, g2, if_true, wrap_nat (show j ≤ 140737488355328 by omega), wrap_nat (show cnt ≤ 140737488355328 by omega)]
  refine Ev.bnd (has_f (rd_L3 X (j : Int)) (rd (rd_L3 X 0) (i : Int)) (by have := hXl _ hmem; omega)) ?_
  rw [hdr] at hy hn
  cases hb : (rd_L3 X (j : Int)).contains (rd (rd_L3 X 0) (i : Int)) with
  | true =>
   rw [List.countP_cons_of_pos (by exact hb)] at hy hn
   simp only [if_true]
   exact ih (j + 1) (cnt + 1) (by omega) (by omega) ho (fun h => hy (by omega)) (fun h => hn (by omega))
  | false =>
   rw [List.countP_cons_of_neg (by rw [hb]; decide)] at hy hn
   simp only [Bool.false_eq_true, if_false]
   exact ih (j + 1) cnt (by omega) (by omega) ho hy hn
theorem sure_l0 (X : List (List Int)) (hX : X.length ≤ 140737488355328) (hXl : ∀ x ∈ X, x.length ≤ 1000) (h0 : 0 < X.length) : ∀ (d i : Nat) (out : List Int), i + d = (rd_L3 X 0).length → out.length ≤ i →
  Ev (fun k => cohousingref30_Sure.l0 k X out (i : Int)) (out ++ ((rd_L3 X 0).drop i).filter (fun e => X.all (fun t => t.contains e)), 0) := by
 have g0 : (0 : Int) < (X.length : Int) := by omega
 have hs0 : (rd_L3 X 0).length ≤ 1000 := hXl _ (rdL3_mem X 0 h0)
 intro d
 induction d with
 | zero =>
  intro i out hi ho
  refine Ev.step ?_
  have h1 : ¬ ((i : Int) < ((rd_L3 X 0).length : Int)) := by omega
  simp only [cohousingref30_Sure.l0, g0, h1, if_true, if_false]
  rw [List.drop_of_length_le (by omega), List.filter_nil, List.append_nil]
  exact Ev.pure _
 | succ d ih =>
  intro i out hi ho
  refine Ev.step ?_
  have h1 : (i : Int) < ((rd_L3 X 0).length : Int) := by omega
  simp only [cohousingref30_Sure.l0, g0, h1, if_true]
  rw [rd_drop (rd_L3 X 0) i (by omega)]
  refine sure_l1 X hX hXl out i (by omega) _ h0 X.length 0 0 (by omega) (Nat.le_refl _) (by omega) (fun h => ?_) (fun h => ?_)
  ·rw [Nat.zero_add, List.drop_zero] at h
   have hall : X.all (fun t => t.contains (rd (rd_L3 X 0) (i : Int))) = true := by
    rw [List.all_eq_true]
    exact fun t ht => List.countP_eq_length.1 h t ht
   rw [List.filter_cons_of_pos (by exact hall)]
   have := ih (i + 1) (out ++ [rd (rd_L3 X 0) (i : Int)]) (by omega) (by simp; omega)
   rw [List.append_assoc] at this
   exact this
  ·rw [Nat.zero_add, List.drop_zero] at h
   have hall : ¬ X.all (fun t => t.contains (rd (rd_L3 X 0) (i : Int))) = true := fun ha => by
    rw [List.all_eq_true] at ha
    exact h (List.countP_eq_length.2 ha)
   rw [List.filter_cons_of_neg (by exact hall)]
   exact ih (i + 1) out (by omega) (by omega)
theorem foldl_filter : ∀ (rr : List (List Int)) (s : List Int), rr.foldl (fun o t => o.filter (fun x => t.contains x)) s = s.filter (fun e => rr.all (fun t => t.contains e)) := by
 intro rr
 induction rr with
 | nil => intro s; exact (List.filter_eq_self.2 fun _ _ => rfl).symm
 | cons t rr ih =>
  intro s
  rw [List.foldl_cons, ih, List.filter_filter]
  refine List.filter_congr fun x _ => ?_
  rw [List.all_cons, Bool.and_comm]
theorem small_mem {l : List PI} {r : List RG} {d : Nat} {x : List Int} (h : x ∈ smallR l r 0 d) : x.length < d := by
 rcases small_spec l r d 0 with ⟨h1, _⟩ | ⟨t, _, h2, h3, _, _⟩
 ·rw [h1] at h; cases h
 ·rw [h3] at h
  have := (mem_combos.1 (List.mem_filter.1 h).1).1
  omega
theorem small_len (l : List PI) (r : List RG) (hl : l.length ≤ 40) (d : Nat) (hd : d ≤ 4) : (smallR l r 0 d).length ≤ 100000 := by
 rcases small_spec l r d 0 with ⟨h1, _⟩ | ⟨t, _, h2, h3, _, _⟩
 ·rw [h1]; simp
 ·rw [h3]
  refine Nat.le_trans (List.length_filter_le _ _) (Nat.le_trans (combos_count _ _) ?_)
  rw [iv_len]
  exact Nat.le_trans (Nat.pow_le_pow_left (by omega : l.length + 1 ≤ 42) t) (pow42 (by omega))
theorem sure_ref (l : List PI) (r : List RG) (a : Int) (hl : l.length ≤ 140737488355328) (hr : r.length ≤ 1000) : Ev (fun k => cohousingref30_Sure.f k l r a) (sureR l r a) := by
 unfold cohousingref30_Sure.f sureR
 refine Ev.bnd (check_f l r a hl (by omega)) ?_
 by_cases h : houseE l r a = 0
 ·have h0 := houseE_0 h
  simp only [h, if_true]
  obtain ⟨m, hm⟩ : ∃ m : Nat, a = (m : Int) := ⟨a.toNat, by omega⟩
  subst hm
  rw [Int.toNat_natCast, smallM_eq (houseE_good h) _ _ (fun t ht => by omega)]
  refine Ev.bnd (smallest_f l r h0.1 hr m (by omega)) ?_
  have hlen := small_len l r h0.1 (m + 1) (by omega)
  have hmem : ∀ x ∈ smallR l r 0 (m + 1), x.length ≤ 1000 := fun x hx => by have := small_mem hx; omega
  cases hx : smallR l r 0 (m + 1) with
  | nil =>
   simp only [List.length_nil, Int.natCast_zero, if_true]
   exact Ev.pure _
  | cons s rest =>
   rw [hx] at hlen hmem
   have h1 : ¬ (((s :: rest).length : Int) = 0) := by rw [List.length_cons]; omega
   simp only [h1, if_false]
   have := sure_l0 (s :: rest) (by omega) hmem (by simp) s.length 0 [] (by rw [Nat.zero_add]; rfl) (Nat.le_refl _)
   rw [List.nil_append, List.drop_zero] at this
   rw [foldl_filter]
   have e : (rd_L3 (s :: rest) 0).filter (fun e => (s :: rest).all (fun t => t.contains e)) = s.filter (fun e => rest.all (fun t => t.contains e)) := by
    show s.filter _ = _
    refine List.filter_congr fun x hx => ?_
    rw [List.all_cons, show s.contains x = true from List.contains_iff_mem.2 hx, Bool.true_and]
   rw [e] at this
   exact this
 ·simp only [h, if_false]
  exact Ev.pure _
theorem same_l0' (a b : List Int) (hB : a.length ≤ 140737488355328) (hl : a.length = b.length) : ∀ (d i : Nat), i + d = a.length → Ev (fun k => cohousingref30_Same.l0 k a b (i : Int)) (decide (a.drop i = b.drop i)) := by
 intro d
 induction d with
 | zero =>
  intro i hi
  have h1 : ¬ ((i : Int) < (a.length : Int)) := by omega
  refine Ev.step ?_
  simp only [cohousingref30_Same.l0, h1, if_false]
  rw [List.drop_of_length_le (by omega), List.drop_of_length_le (by omega)]
  exact Ev.pure _
 | succ d ih =>
  intro i hi
  have h1 : ((i : Int) < (a.length : Int)) := by omega
  have h2 : (0 : Int) ≤ (i : Int) := by omega
  have h3 : ((i : Int) < (b.length : Int)) := by omega
  refine Ev.step ?_
  rw [rd_drop a i (by omega), rd_drop b i (by omega)]
  by_cases hc : rd a (i : Int) = rd b (i : Int)
  ·simp only [cohousingref30_Same.l0, h1, h2, h3, hc, if_true, wrap_nat (show i ≤ 140737488355328 by omega)]
   rw [show decide (rd b (i : Int) :: a.drop (i + 1) = rd b (i : Int) :: b.drop (i + 1)) = decide (a.drop (i + 1) = b.drop (i + 1)) from decide_eq_decide.2 ⟨fun h => (List.cons.inj h).2, fun h => by rw [h]⟩]
   exact ih (i + 1) (by omega)
  ·simp only [cohousingref30_Same.l0, h1, h2, h3, hc, if_true, if_false]
   rw [decide_eq_false (fun h => hc (List.cons.inj h).1)]
   exact Ev.pure _
theorem same_f' (a b : List Int) (hB : a.length ≤ 140737488355328) : Ev (fun k => cohousingref30_Same.f k a b) (decide (a = b)) := by
 unfold cohousingref30_Same.f
 by_cases hl : a.length = b.length
 ·have h1 : (a.length : Int) = (b.length : Int) := by omega
  simp only [h1, if_true]
  exact same_l0' a b hB hl a.length 0 (by omega)
 ·have h1 : ¬ ((a.length : Int) = (b.length : Int)) := by omega
  simp only [h1, if_false]
  rw [decide_eq_false (fun h => hl (by rw [h]))]
  exact Ev.pure _
theorem Ev.of_mono {α : Type} {f : Nat → Option α} {r : α} (k0 : Nat) (h0 : f k0 = some r) (h : ∀ k, LeO (f k) (f (k + 1))) : Ev f r := by
 refine ⟨k0, fun k hk => ?_⟩
 obtain ⟨d, rfl⟩ : ∃ d, k = k0 + d := ⟨k - k0, by omega⟩
 induction d with
 | zero => exact h0
 | succ d ih => exact h _ _ (ih (by omega))
theorem head30 : Ev (fun k => cohousinglaw30_head.f k) true := Ev.of_mono 60 (by kernel_rfl) (fun k => cohousinglaw30_head.mono k)
structure U (l : List PI) (r : List RG) (a : Int) : Prop where
 n : l.length ≤ 12
 m : r.length ≤ 20
 good : Good l r
 a0 : 0 ≤ a
 a3 : a ≤ 3
theorem few_f (l : List PI) (r : List RG) : cohousingref30_Few.f l r = some (decide (l.length ≤ 12 ∧ r.length ≤ 20)) := by
 unfold cohousingref30_Few.f
 by_cases h1 : (l.length : Int) ≤ 12
 ·rw [if_pos h1]
  congr 1
  exact decide_eq_decide.2 ⟨fun h => ⟨by omega, by omega⟩, fun h => by omega⟩
 ·rw [if_neg h1, decide_eq_false (fun h => h1 (by omega))]
theorem usable_f (l : List PI) (r : List RG) (a : Int) : Ev (fun k => cohousinglaw30_usable.f k l r a) (decide (U l r a)) := by
 unfold cohousinglaw30_usable.f
 simp only [few_f, Option.bind_some]
 by_cases h1 : l.length ≤ 12 ∧ r.length ≤ 20
 ·have hbel : cohousingref28_Belongs.f l r = some (belongsB l.length r) := by unfold cohousingref28_Belongs.f; rw [if_pos (by omega)]
  simp only [decide_eq_true h1, if_true, hbel, Option.bind_some]
  refine Ev.bnd (valid_f l (by omega)) ?_
  by_cases hg : Good l r
  ·have hgi := (good_iff l r).1 hg
   simp only [decide_eq_true hgi.1, hgi.2, if_true]
   by_cases h2 : a ≥ 0
   ·simp only [h2, if_true]
    rw [show decide (U l r a) = decide (a ≤ 3) from decide_eq_decide.2 ⟨fun h => h.a3, fun h => ⟨h1.1, h1.2, hg, h2, h⟩⟩]
    exact Ev.pure _
   ·simp only [h2, if_false]
    rw [decide_eq_false (fun h => h2 h.a0)]
    exact Ev.pure _
  ·rw [show decide (U l r a) = false from decide_eq_false (fun h => hg h.good)]
   by_cases hv : okL l ∧ l.length ≤ 200
   ·have hb : belongsB l.length r = false := by
     cases h : belongsB l.length r with
     | false => rfl
     | true => exact absurd ((good_iff l r).2 ⟨hv, h⟩) hg
    simp only [decide_eq_true hv, hb, if_true, Bool.false_eq_true, if_false]
    exact Ev.pure _
   ·simp only [decide_eq_false hv, Bool.false_eq_true, if_false]
    exact Ev.pure _
 ·simp only [decide_eq_false h1, Bool.false_eq_true, if_false]
  rw [decide_eq_false (fun h => h1 ⟨h.n, h.m⟩)]
  exact Ev.pure _
def okAt (n : Nat) (ss : List Int) (j : Nat) : Prop := 0 ≤ rd ss (j : Int) ∧ rd ss (j : Int) < n ∧ (0 < j → rd ss ((j - 1 : Nat) : Int) < rd ss (j : Int))
theorem okAt_combos (n : Nat) (ss : List Int) : (∀ j, j < ss.length → okAt n ss j) ↔ ss ∈ combos (iv 0 n) ss.length := by
 rw [mem_combos]
 constructor
 ·intro h
  refine ⟨rfl, sub_iv n 0 ss ?_ ?_⟩
  ·rw [List.pairwise_iff_getElem]
   have key : ∀ d i, i + d + 1 < ss.length → rd ss (i : Int) < rd ss ((i + d + 1 : Nat) : Int) := by
    intro d
    induction d with
    | zero =>
     intro i hi
     have := (h (i + 0 + 1) hi).2.2 (by omega)
     simpa using this
    | succ d ih =>
     intro i hi
     have h1 := ih i (by omega)
     have h2 := (h (i + (d + 1) + 1) hi).2.2 (by omega)
     rw [show i + (d + 1) + 1 - 1 = i + d + 1 by omega] at h2
     omega
   intro i j hi hj hij
   have h1 := key (j - i - 1) i (by omega)
   rw [show i + (j - i - 1) + 1 = j by omega, rd_at ss i hi, rd_at ss j hj] at h1
   exact h1
  ·intro x hx
   obtain ⟨j, hj, rfl⟩ := List.mem_iff_getElem.1 hx
   have := h j hj
   rw [okAt, rd_at ss j hj] at this
   omega
 ·rintro ⟨_, hs⟩ j hj
  have hp := (iv_lt 0 n).sublist hs
  rw [List.pairwise_iff_getElem] at hp
  have hm := hs.subset (List.getElem_mem hj)
  rw [iv_mem] at hm
  unfold okAt
  rw [rd_at ss j hj]
  refine ⟨by omega, by omega, fun h0 => ?_⟩
  rw [rd_at ss (j - 1) (by omega)]
  exact hp (j - 1) j (by omega) hj (by omega)
theorem bounds_f (l : List PI) (r : List RG) (hl : l.length ≤ 5864062014805) (hr : r.length ≤ 140737488355328) : flow_Bounds.f l r = some (boundsR l r) := by unfold flow_Bounds.f; rw [if_pos ⟨hl, hr⟩]
theorem explains_l0 (l : List PI) (r : List RG) (ss : List Int) (hl : l.length ≤ 12) (hr : r.length ≤ 20) (hs : ss.length ≤ 1000) : ∀ (d i : Nat), i + d = ss.length → (∀ j, j < i → okAt l.length ss j) →
  Ev (fun k => cohousinglaw30_explains.l0 k l r ss ss (ss.length : Int) (i : Int)) (decide (ss ∈ exs l r ss.length)) := by
 have hfalse : ∀ i, i < ss.length → ¬ okAt l.length ss i → decide (ss ∈ exs l r ss.length) = false := fun i hi hn => decide_eq_false fun h => hn ((okAt_combos l.length ss).2 (List.mem_filter.1 h).1 i hi)
 intro d
 induction d with
 | zero =>
  intro i hi hok
  refine Ev.step ?_
  have h1 : ¬ ((i : Int) < (ss.length : Int)) := by omega
  have hall : ∀ j, j < ss.length → okAt l.length ss j := fun j hj => hok j (by omega)
  have hc := (okAt_combos l.length ss).1 hall
  simp only [cohousinglaw30_explains.l0, h1, if_false]
  refine Ev.bnd (leaking_f l ss (combos_in hc) (by omega) (by omega)) ?_
  have hb := bounds_f (LL l ss) r (by rw [LL_len]; omega) (by omega)
  simp only [hb, Option.bind_some]
  have e : decide (ss ∈ exs l r ss.length) = ((boundsR (LL l ss) r).2 == 0) := by
   have h2 : explB l r ss = ((boundsR (LL l ss) r).2 == 0) := by unfold explB; rw [leakP_LL l ss (combos_in hc)]
   rw [← h2]
   cases he : explB l r ss with
   | true => exact decide_eq_true (List.mem_filter.2 ⟨hc, he⟩)
   | false => exact decide_eq_false (fun h => by rw [(List.mem_filter.1 h).2] at he; cases he)
  rw [e]
  exact Ev.pure _
 | succ d ih =>
  intro i hi hok
  refine Ev.step ?_
  have hlt : i < ss.length := by omega
  have h1 : (i : Int) < (ss.length : Int) := by omega
  have h2 : (0 : Int) ≤ (i : Int) := by omega
  by_cases c1 : rd ss (i : Int) < 0
  ·simp only [cohousinglaw30_explains.l0, h1, h2, c1, if_true]
   rw [hfalse i hlt (fun h => by have := h.1; omega)]
   exact Ev.pure _
  by_cases c2 : rd ss (i : Int) ≥ (l.length : Int)
  ·simp only [cohousinglaw30_explains.l0, h1, h2, c1, c2, if_true, if_false]
   rw [hfalse i hlt (fun h => by have := h.2.1; omega)]
   exact Ev.pure _
  by_cases c3 : (i : Int) > 0
  ·have h3 : wrap64 ((i : Int) - 1) = ((i - 1 : Nat) : Int) := by unfold wrap64; omega
   have h4 : (0 : Int) ≤ ((i - 1 : Nat) : Int) := by omega
   have h5 : ((i - 1 : Nat) : Int) < (ss.length : Int) := by omega
   by_cases c4 : rd ss (i : Int) ≤ rd ss ((i - 1 : Nat) : Int)
   ·simp only [cohousinglaw30_explains.l0, h1, h2, c1, c2, c3, h3, h4, h5, c4, if_true, if_false]
    rw [hfalse i hlt (fun h => by have := h.2.2 (by omega); omega)]
    exact Ev.pure _
   ·simp only [cohousinglaw30_explains.l0, h1, h2, c1, c2, c3, h3, h4, h5, c4, if_true, if_false, wrap_nat (show i ≤ 140737488355328 by omega)]
    refine ih (i + 1) (by omega) fun j hj => ?_
    by_cases e : j = i
    ·subst e; exact ⟨by omega, by omega, fun _ => by omega⟩
    ·exact hok j (by omega)
  ·simp only [cohousinglaw30_explains.l0, h1, h2, c1, c2, c3, if_true, if_false, wrap_nat (show i ≤ 140737488355328 by omega)]
   refine ih (i + 1) (by omega) fun j hj => ?_
   by_cases e : j = i
   ·subst e; exact ⟨by omega, by omega, fun h => by omega⟩
   ·exact hok j (by omega)
theorem lawExplains_f (l : List PI) (r : List RG) (ss : List Int) (hl : l.length ≤ 12) (hr : r.length ≤ 20) (hs : ss.length ≤ 1000) : Ev (fun k => cohousinglaw30_explains.f k l r ss) (decide (ss ∈ exs l r ss.length)) :=
 explains_l0 l r ss hl hr hs ss.length 0 (by omega) (fun j hj => by omega)
inductive Told (l : List PI) (r : List RG) (a : Int) : List Int × Bool × Int → List Int × Int → Prop
 | none : (∀ t : Nat, (t : Int) ≤ a → exs l r t = []) → Told l r a ([], false, 0) ([], 4)
 | some (t : Nat) (s : List Int) (rest : List (List Int)) : (t : Int) ≤ a → exs l r t = s :: rest → (∀ u, u < t → exs l r u = []) → Told l r a (s, true, 0) (s.filter (fun e => rest.all (fun x => x.contains e)), 0)
theorem houseE_U {l : List PI} {r : List RG} {a : Int} (h : U l r a) : houseE l r a = 0 := by
 unfold houseE
 rw [if_neg (by rw [bounds_one]; rintro (h1 | h1 | h1); exact h1 h.good; have := h.a0; omega; have := h.a3; omega), if_neg (by have := h.n; omega)]
theorem told {l : List PI} {r : List RG} {a : Int} (h : U l r a) : Told l r a (explainR l r a) (sureR l r a) := by
 have he := houseE_U h
 unfold explainR sureR
 rw [if_pos he, if_pos he, smallM_eq h.good _ _ (fun t ht => by omega)]
 have ha0 := h.a0
 rcases small_spec l r (a.toNat + 1) 0 with ⟨h1, h2⟩ | ⟨t, h1, h2, h3, h4, h5⟩
 ·rw [h1]
  exact .none fun t ht => h2 t (by omega) (by omega)
 ·rw [h3]
  cases hx : exs l r t with
  | nil => exact absurd hx h4
  | cons s rest =>
   simp only []
   rw [foldl_filter]
   exact .some t s rest (by omega) hx fun u hu => h5 u (by omega) hu
theorem leakExplain_f (l : List PI) (r : List RG) (a : Int) (hl : l.length ≤ 5864062014805) (hr : r.length ≤ 140737488355328) : leak_Explain.f l r a = some (explainR l r a) := by unfold leak_Explain.f; rw [if_pos ⟨hl, hr⟩]
theorem leakSure_f (l : List PI) (r : List RG) (a : Int) (hl : l.length ≤ 5864062014805) (hr : r.length ≤ 140737488355328) : leak_Sure.f l r a = some (sureR l r a) := by unfold leak_Sure.f; rw [if_pos ⟨hl, hr⟩]
theorem exs_len {l : List PI} {r : List RG} {t : Nat} {s : List Int} (h : s ∈ exs l r t) : s.length = t := (mem_combos.1 (List.mem_filter.1 h).1).1
theorem exs_of_len {l : List PI} {r : List RG} {t : Nat} {s : List Int} (h : s ∈ exs l r t) : s ∈ exs l r s.length := by rw [exs_len h]; exact h
end Go.Proofs.Ytolmjhpapidmhaa.P
end
section
namespace Go.Proofs.YtolmjhpapidmhaaH
open Go.RowKit Go.ChangeShapes Go.WideShapes Go.Proofs.YtolmjhpapidmhaaW.PrintWords
def Opens {α : Type} (P : Program) (d : Kd α) (t : TypeId) : Prop :=
 ∀ {H : Type} {enc : TypeId × Value → H} {w : World} {base : Nat} {spare : Nat → Bool} {held : Bool} {fuel : Nat} {cs : List Value} {x : DataW H × List MemPlace}, DataW.trod enc P w base spare held fuel t cs = some x → ∃ a : α, d.K w a cs
theorem Opens.int {P : Program} {t : TypeId} {k : IntKind} (h : P.underlying t = some (.int k)) : Opens P (Kd.int k) t := by
 intro H enc w base spare held fuel cs x hx
 obtain ⟨n, rfl, _, _⟩ := DataW.trod_int h hx
 exact ⟨n, rfl⟩
theorem Opens.iso {α β : Type} {P : Program} {d : Kd α} {t : TypeId} (f : β → α) (g : α → β) (hfg : ∀ a, f (g a) = a) (h : Opens P d t) : Opens P (Kd.iso d f) t := by
 intro H enc w base spare held fuel cs x hx
 obtain ⟨a, ha⟩ := h hx
 refine ⟨g a, ?_⟩
 show d.K w (f (g a)) cs
 rw [hfg]
 exact ha
def Segs {β : Type} (P : Program) (d : Kd β) (fs : List Field) (o z : Nat) : Prop :=
 ∀ {H : Type} {enc : TypeId × Value → H} {w : World} {base : Nat} {spare : Nat → Bool} {held : Bool} {fuel : Nat} {cs : List Value}, cs.length = z →
  (∀ f ∈ fs, ∃ x : DataW H × List MemPlace, DataW.trod enc P w base spare held fuel f.type ((cs.drop f.offset).take (P.cellsOf f.type)) = some x) → ∃ b : β, d.K w b (cs.drop o)
theorem Segs.one {α : Type} {P : Program} {d : Kd α} {f : Field} {o z : Nat} (h : Opens P d f.type) (ho : f.offset = o) (hz : z = o + P.cellsOf f.type) : Segs P d [f] o z := by
 intro H enc w base spare held fuel cs hl hf
 obtain ⟨x, hx⟩ := hf f (by simp)
 obtain ⟨a, ha⟩ := h hx
 refine ⟨a, ?_⟩
 rw [ho, List.take_of_length_le (by rw [List.length_drop]; omega)] at ha
 exact ha
theorem Segs.cons {α β : Type} {P : Program} {d : Kd α} {d' : Kd β} {f : Field} {fs : List Field} {o o' z : Nat} (h : Opens P d f.type) (ho : f.offset = o) (ho' : o' = o + P.cellsOf f.type) (hr : Segs P d' fs o' z) : Segs P (Kd.pair d d') (f :: fs) o z := by
 intro H enc w base spare held fuel cs hl hf
 obtain ⟨x, hx⟩ := hf f (by simp)
 obtain ⟨a, ha⟩ := h hx
 obtain ⟨b, hb⟩ := hr hl (fun f' h' => hf f' (List.mem_cons_of_mem _ h'))
 refine ⟨(a, b), _, _, ?_, ha, hb⟩
 rw [ho, ho', ← List.drop_drop, List.take_append_drop]
theorem Opens.struct {β : Type} {P : Program} {d : Kd β} {t : TypeId} {fs : Array Field} (h : P.underlying t = some (.struct fs)) (hr : Segs P d fs.toList 0 (P.cellsOf t)) : Opens P d t := by
 intro H enc w base spare held fuel cs x hx
 obtain ⟨xs, n, _, _, hl, hxl, hf⟩ := DataW.trod_struct h hx
 have := hr (enc := enc) (w := w) (base := base) (spare := spare) (held := held) (fuel := n) (cs := cs) hl (fun f hm => by
  obtain ⟨i, hi, rfl⟩ := List.mem_iff_getElem.1 hm
  have hi' : i < fs.size := by simpa using hi
  have h1 := hf i fs[i] (by simp [hi'])
  refine ⟨xs[i]'(by omega), ?_⟩
  rw [Array.getElem_toList]
  rw [h1]
  simp [hxl, hi'])
 rw [List.drop_zero] at this
 exact this
theorem Opens.row {α : Type} {P : Program} {d : Kd α} {t e : TypeId} (ht : P.underlying t = some (.slice e)) (hsz : P.cellsOf e = d.sz) (he : Opens P d e) {H : Type} {enc : TypeId × Value → H} {w : World} {base : Nat} {spare : Nat → Bool} {held : Bool} {fuel : Nat} {cs : List Value} {x : DataW H × List MemPlace}
  (hx : DataW.trod enc P w base spare held fuel t cs = some x) : ∃ A len cap, cs = [.slice A len cap] ∧ ∃ xs : List α, xs.length = len ∧ len ≤ cap ∧ d.C w A len xs := by
 rcases Deep.open_slice ht hx with ⟨rfl, _⟩ | ⟨a, len, cap, m, n, D, Pl, rfl, _, hl, hm, hmm, _, hel⟩
 ·exact ⟨none, 0, 0, rfl, [], rfl, Nat.le_refl _, rfl, by omega, fun h => absurd h (Nat.lt_irrefl _)⟩
 ·have hlm : len ≤ m := by rw [hmm]; split <;> omega
  have each : ∀ i, i < len → ∃ a' : α, ∃ cs', cs'.length = d.sz ∧ d.K w a' cs' ∧ ∀ j u, cs'[j]? = some u → w.cell? (a.add (i * d.sz + j)) = some u := by
   intro i hi
   obtain ⟨cs', h1, h2⟩ := hel i (by omega)
   obtain ⟨a', ha'⟩ := he h2
   obtain ⟨_, hlen, hcell⟩ := World.cells?_some h1
   refine ⟨a', cs', by omega, ha', fun j u hj => ?_⟩
   have hjl : j < cs'.length := (List.getElem?_eq_some_iff.1 hj).1
   have := hcell j (by omega)
   rw [Deep.add_add, hsz] at this
   rw [this, hj]
  obtain ⟨xs, hxs⟩ : ∃ xs : List α, xs.length = len ∧ ∀ i (h : i < xs.length), ∃ cs', cs'.length = d.sz ∧ d.K w xs[i] cs' ∧ ∀ j u, cs'[j]? = some u → w.cell? (a.add (i * d.sz + j)) = some u := by
   have key : ∀ k, k ≤ len → ∃ xs : List α, xs.length = k ∧ ∀ i (h : i < xs.length), ∃ cs', cs'.length = d.sz ∧ d.K w xs[i] cs' ∧ ∀ j u, cs'[j]? = some u → w.cell? (a.add (i * d.sz + j)) = some u := by
    intro k
    induction k with
    | zero => intro _; exact ⟨[], rfl, fun i h => absurd h (Nat.not_lt_zero _)⟩
    | succ k ih =>
     intro hk
     obtain ⟨xs, hl, hxs⟩ := ih (by omega)
     obtain ⟨a', ha'⟩ := each k (by omega)
     refine ⟨xs ++ [a'], by simp [hl], fun i h => ?_⟩
     by_cases hi : i < xs.length
     ·rw [List.getElem_append_left hi]
      exact hxs i hi
     ·have e : i = xs.length := by simp at h; omega
      subst e
      rw [List.getElem_append_right (Nat.le_refl _)]
      simp only [Nat.sub_self, List.getElem_cons_zero]
      rw [hl]
      exact ha'
   exact key len (Nat.le_refl _)
  refine ⟨some a, len, cap, rfl, xs, hxs.1, hl, hxs.1, ?_, fun _ => ⟨a, rfl, fun j p hj => ?_⟩⟩
  ·have : maxLen = 2 ^ 63 - 1 := rfl
   omega
  ·obtain ⟨hjl, rfl⟩ := List.getElem?_eq_some_iff.1 hj
   exact hxs.2 j hjl
theorem Opens.slice {α : Type} {P : Program} {d : Kd α} {t e : TypeId} (ht : P.underlying t = some (.slice e)) (hsz : P.cellsOf e = d.sz) (he : Opens P d e) : Opens P (Kd.slice e d) t := by
 intro H enc w base spare held fuel cs x hx
 obtain ⟨A, len, cap, rfl, xs, rfl, hl, hC⟩ := Opens.row ht hsz he hx
 exact ⟨xs, A, cap, rfl, hl, hC⟩
theorem open_arg {α : Type} {P : Program} {d : Kd α} {t e : TypeId} (ht : P.underlying t = some (.slice e)) (hsz : P.cellsOf e = d.sz) (he : Opens P d e) {H : Type} {enc : TypeId × Value → H} {w : World} {base : Nat} {spare : Nat → Bool} {held : Bool} {A : Option Addr} {len cap : Nat} {x : DataW H} {ps : List MemPlace}
  (hx : DataW.Trod enc P w base spare held t (.slice A len cap) x ps) : ∃ xs : List α, xs.length = len ∧ len ≤ cap ∧ d.C w A len xs := by
 obtain ⟨fuel, hf⟩ := hx
 obtain ⟨A', len', cap', e1, r⟩ := Opens.row ht hsz he hf
 simp [Value.cells] at e1
 obtain ⟨rfl, rfl, rfl⟩ := e1
 exact r
theorem sized_arg {H : Type} {enc : TypeId × Value → H} {P : Program} {W : World} {base : Nat} {spare : Nat → Bool} {held : Bool} {t e : TypeId} {a : Option Addr} {len cap : Nat} {d : DataW H} {ps : List MemPlace} {ts : List TypeId} {ds : List (DataW H)} {j : Nat}
  (hsz : (DataW.weightsEach P ts ds).all (· ≤ reachBytes) = true) (ht : ts[j]? = some t) (hd : ds[j]? = some d) (hu : P.underlying t = some (.slice e)) {B : Nat} (hB : P.bytesOf e = B)
  (h : DataW.Trod enc P W base spare held t (.slice a len cap) d ps) : len * B ≤ 140737488351232 := by
 obtain ⟨fuel, hf⟩ := h
 rcases Deep.open_slice hu hf with ⟨hcs, _⟩ | ⟨x, l, c, m, n, D, Pl, hcs, _, hl, _, hm, hx, _⟩
 ·simp [Value.cells] at hcs
  obtain ⟨rfl, rfl, rfl⟩ := hcs
  simp
 ·simp [Value.cells] at hcs
  obtain ⟨rfl, rfl, rfl⟩ := hcs
  obtain ⟨hx, _⟩ := Prod.mk.inj hx
  subst hx
  have z := sized_slice hsz ht hd hu
  rw [hB] at z
  simp only [List.length_map, List.length_range] at z
  exact Nat.le_trans (Nat.mul_le_mul_right _ (Nat.le_add_right _ _)) z
end Go.Proofs.YtolmjhpapidmhaaH
end
section
namespace Go.Proofs.Ytolmjhpapidmhaa.P
open Go.RowKit Go.Proofs.YtolmjhpapidmhaaW.PrintWords Go.Proofs.YtolmjhpapidmhaaW.PrintLast Go.Proofs.YtolmjhpapidmhaaW.PrintMore
attribute [local go_sem] max2_int min2_int max_two min_two max_three min_three max_four min_four
set_option linter.unusedVariables false
set_option linter.unusedSimpArgs false
set_option maxHeartbeats 8000000
set_option maxRecDepth 100000
section
def cohousingref28_Leaf.f (k : Nat) (l0 : List (S44)) (a1 : Int) : Option (Bool) := (cohousingref28_below.f k l0 a1).bind fun t499 => (some ((t499.length : Int) == 0))
theorem cohousingref28_Leaf.mono : ∀ a0 a1 k, LeO (cohousingref28_Leaf.f k a0 a1) (cohousingref28_Leaf.f (k + 1) a0 a1) := by
 intro a0 a1 k
 unfold cohousingref28_Leaf.f
 repeat' first
   | (with_reducible exact cohousingref28_below.mono _ _ _)
   | (with_reducible exact LeO.refl _)
   | (with_reducible exact LeO.none _)
   | (with_reducible refine LeO.ite ?_ ?_)
   | (with_reducible refine LeO.bind ?_ (fun _ => ?_))
   | exact cohousingref28_below.mono _ _ _
   | exact LeO.none _
   | refine LeO.ite ?_ ?_
   | refine LeO.bind ?_ (fun _ => ?_)
theorem cohousingref28_Leaf.calls (k : Nat) (A0 : Option Addr) (c0 : Nat) (l0 : List (S44)) (a1 : Int) (r : Bool) (w : World) (hr0 : Kd.C k44 w A0 l0.length l0) (hc0 : l0.length ≤ c0) (h : cohousingref28_Leaf.f k l0 a1 = some r) :
  Calls Try.prog 24 #[.slice A0 l0.length c0, .int .i64 a1] w fun e w' => e = .returned (.bool r) ∧ Below w.heap.size w w' := by
 have HR0 := Aside0.mk hr0
 have HC0 := Aside0.mk hc0
 clear hr0 hc0
 have HB := Aside0.mk (Below.refl w.heap.size w)
 have H : ((cohousingref28_below.f k l0 a1).bind fun t499 => (some ((t499.length : Int) == 0))) = some r := h
 clear h
 replace H := Option.bind_eq_some_iff.mp H
 obtain ⟨t499, A30, H⟩ := H
 replace H : (some ((t499.length : Int) == 0)) = some r := H
 have A3 := Aside0.mk A30
 clear A30
 obtain rfl := Option.some.inj H
 go_enter Try.func24, Try.ntmps24
 go_wp2_with (first | ((with_reducible refine gate_callee (f := 41) rfl ?_); refine gl_ (some 7) Try.func41 #[.slice A0 l0.length c0, .int .i64 a1] ?_; (with_reducible refine (cohousingref28_below.calls k _ _ l0 a1 t499 _ ?side1 ?side2 A3.out).mono ?_); (case side1 => exact cc_ (HR0.out)); (case side2 => exact HC0.out); rintro e w4 ⟨v500, rfl, ho0, hb⟩; refine ⟨_, rfl, ?_⟩; have n0_ := Aside0.mk (Kd.R_lower ho0 (below_size (bb_ HB))); have n1_ := Aside0.mk (below_step (bb_ HB) hb); clear HB; have HO501 := n0_; have HB := n1_; clear n0_ n1_; (try clear hb); (try clear hb2); (try clear hk); (try clear hi); (try clear ho0); obtain ⟨Ao5, co5, eo5⟩ := Kd.R_slice HO501.out; subst eo5))
 go_ret
 exact ⟨ew_, by repeat (first | (with_reducible first | exact HB.out | apply below_alloc | apply pw_below_drewN | apply below_drew1) | exact HB.out)⟩
end
end Go.Proofs.Ytolmjhpapidmhaa.P
end
