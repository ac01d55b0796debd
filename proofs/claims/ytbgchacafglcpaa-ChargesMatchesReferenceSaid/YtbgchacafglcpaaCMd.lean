/- Part 4 of the base that the seat's proofs share: words, walks and plain laws. -/
import Derived.ArgAppend
import Derived.Below
import Derived.BigQuiet
import Derived.ChangeOld
import Derived.ChangeSlices
import Derived.Deep.AppendLies
import Derived.Deep.CutBlock
import Derived.Deep.DeepCutAuto
import Derived.Deep.Draws
import Derived.Deep.LoopGhost
import Derived.Deep.OwnRows
import Derived.Deep.QuietTactic
import Derived.Deep.RegionHeld3
import Derived.Deep.Slices
import Derived.KernelRfl
import Derived.Laws.BitsLemmas
import Derived.Laws.BytesArg
import Derived.Laws.IdiomCopy
import Derived.Laws.MakeOwn
import Derived.Laws.OwnMore
import Derived.Laws.Rows
import Derived.Laws.Slices
import Derived.Laws.StructEq
import Derived.Lib.AppendStr
import Derived.Lib.ConvBytes
import Derived.LoopIn
import Derived.LoopNIn
import Derived.Maps.AppendAt
import Derived.Maps.Own
import Derived.OpenShut
import Derived.OrdersHeld
import Derived.OwnWalk
import Derived.OwnWalkIn
import Derived.ProofKit
import Derived.RangeFuncBound
import Derived.RangeFuncCalls
import Derived.RangeFuncLeaves
import Derived.RangeFuncNested
import Derived.RowKit
import Derived.RowKit3
import Derived.ShutString
import Derived.SizedLaws
import Derived.Tactics
import Derived.TacticsInMore
import Derived.Test.YtbgchacafglcpaaProg
import Derived.WalkKit
import Derived.WideLaws
import Derived.Test.YtbgchacafglcpaaCMc
set_option linter.unusedVariables false
set_option linter.unusedSimpArgs false
section
namespace Go.Proofs.Ytbgchacafglcpaa.P
open Go.RowKit Go.Proofs.YtbgchacafglcpaaW.PrintWords Go.Proofs.YtbgchacafglcpaaW.PrintLast Go.Proofs.YtbgchacafglcpaaW.PrintMore
attribute [local go_sem] max2_int min2_int max_two min_two max_three min_three max_four min_four
set_option linter.unusedVariables false
set_option linter.unusedSimpArgs false
set_option maxHeartbeats 8000000
set_option maxRecDepth 100000
section
mutual
def cohousingref29_Bounds.j0 : Nat → Int → Int → List (S38) → Bool → Option ((List (S38)) × Int)
 | 0, _, _, _, _ => none
 | k + 1, x0, x1, x2, x22 => if x22 = true then (some (([] : List (S38)), 1)) else (cohousingref29_Bounds.l0 k x0 x1 x2 ([] : List (S38)) 0)
def cohousingref29_Bounds.l0 : Nat → Int → Int → List (S38) → List (S38) → Int → Option ((List (S38)) × Int)
 | 0, _, _, _, _, _ => none
 | k + 1, x0, x1, x2, x10, x11 => if x11 < (x2.length : Int) then (if 0 ≤ x11 then ((cohousingref29_Right.f k x0 x1 ((rd_T38 x2 x11).f0)).bind fun t224 => ((cohousingref29_Right.f k x0 x1 ((rd_T38 x2 x11).f1)).bind fun t226 => (if x10.length < 8796093022208 then (cohousingref29_Bounds.l0 k x0 x1 x2 (x10 ++ [(⟨t224, t226⟩ : S38)]) (wrap64 (x11 + 1))) else (none)))) else (none)) else (some (x10, 0))
end
def cohousingref29_Bounds.f (k : Nat) (a0 : Int) (a1 : Int) (l2 : List (S38)) : Option ((List (S38)) × Int) := (cohousingref29_cost.f a0).bind fun t221 => ((cohousingref29_Parts.f k a1 l2).bind fun t222 => (if t221 = true then (cohousingref29_Bounds.j0 k a0 a1 l2 (!t222)) else (cohousingref29_Bounds.j0 k a0 a1 l2 true)))
theorem cohousingref29_Bounds.mono_l : ∀ k, (∀ y0 y1 y2 y3, LeO (cohousingref29_Bounds.j0 k y0 y1 y2 y3) (cohousingref29_Bounds.j0 (k + 1) y0 y1 y2 y3)) ∧ (∀ y0 y1 y2 y3 y4, LeO (cohousingref29_Bounds.l0 k y0 y1 y2 y3 y4) (cohousingref29_Bounds.l0 (k + 1) y0 y1 y2 y3 y4))
 | 0 => ⟨fun _ _ _ _ r h => by simp [cohousingref29_Bounds.j0] at h, fun _ _ _ _ _ r h => by simp [cohousingref29_Bounds.l0] at h⟩
 | k + 1 => by
  obtain ⟨ih0, ih1⟩ := cohousingref29_Bounds.mono_l k
  refine ⟨?_, ?_⟩
  ·intro y0 y1 y2 y3
   unfold cohousingref29_Bounds.j0
   repeat' first
   | (with_reducible exact ih0 _ _ _ _)
   | (with_reducible exact ih1 _ _ _ _ _)
   | (with_reducible exact cohousingref29_Parts.mono _ _ _)
   | (with_reducible exact cohousingref29_Right.mono _ _ _ _)
   | (with_reducible exact LeO.refl _)
   | (with_reducible exact LeO.none _)
   | (with_reducible refine LeO.ite ?_ ?_)
   | (with_reducible refine LeO.bind ?_ (fun _ => ?_))
   | exact ih0 _ _ _ _
   | exact ih1 _ _ _ _ _
   | exact cohousingref29_Parts.mono _ _ _
   | exact cohousingref29_Right.mono _ _ _ _
   | exact LeO.none _
   | refine LeO.ite ?_ ?_
   | refine LeO.bind ?_ (fun _ => ?_)
  ·intro y0 y1 y2 y3 y4
   unfold cohousingref29_Bounds.l0
   repeat' first
   | (with_reducible exact ih0 _ _ _ _)
   | (with_reducible exact ih1 _ _ _ _ _)
   | (with_reducible exact cohousingref29_Parts.mono _ _ _)
   | (with_reducible exact cohousingref29_Right.mono _ _ _ _)
   | (with_reducible exact LeO.refl _)
   | (with_reducible exact LeO.none _)
   | (with_reducible refine LeO.ite ?_ ?_)
   | (with_reducible refine LeO.bind ?_ (fun _ => ?_))
   | exact ih0 _ _ _ _
   | exact ih1 _ _ _ _ _
   | exact cohousingref29_Parts.mono _ _ _
   | exact cohousingref29_Right.mono _ _ _ _
   | exact LeO.none _
   | refine LeO.ite ?_ ?_
   | refine LeO.bind ?_ (fun _ => ?_)
theorem cohousingref29_Bounds.mono : ∀ a0 a1 a2 k, LeO (cohousingref29_Bounds.f k a0 a1 a2) (cohousingref29_Bounds.f (k + 1) a0 a1 a2) := by
 intro a0 a1 a2 k
 obtain ⟨ih0, ih1⟩ := cohousingref29_Bounds.mono_l k
 unfold cohousingref29_Bounds.f
 repeat' first
   | (with_reducible exact ih0 _ _ _ _)
   | (with_reducible exact ih1 _ _ _ _ _)
   | (with_reducible exact cohousingref29_Parts.mono _ _ _)
   | (with_reducible exact cohousingref29_Right.mono _ _ _ _)
   | (with_reducible exact LeO.refl _)
   | (with_reducible exact LeO.none _)
   | (with_reducible refine LeO.ite ?_ ?_)
   | (with_reducible refine LeO.bind ?_ (fun _ => ?_))
   | exact ih0 _ _ _ _
   | exact ih1 _ _ _ _ _
   | exact cohousingref29_Parts.mono _ _ _
   | exact cohousingref29_Right.mono _ _ _ _
   | exact LeO.none _
   | refine LeO.ite ?_ ?_
   | refine LeO.bind ?_ (fun _ => ?_)
def cohousingref29_Bounds.T9 : Bool × List (List Nat × List Nat) := (true, [([], []), ([], []), ([], []), ([], []), ([], []), ([3, 4], [3, 4]), ([5], [5]), ([6], [6]), ([1, 2, 7], [1, 2, 7]), ([], []), ([], []), ([], []), ([], []), ([11, 12], [11, 12]), ([13], [13]), ([14], [14]), ([9, 10, 15, 8], [9, 10, 15]), ([8, 16], [8, 16]), ([17], [17]), ([0, 18, 16], [0, 18]), ([19, 19, 0, 1, 2, 3, 4, 5, 6, 7, 8, 9, 10, 11, 12, 13, 14, 15, 16, 17, 18, 19], [0, 19])])
def cohousingref29_Bounds.B9 : List Nat := [0, 0, 0, 0, 0, 24, 56, 120, 254, 0, 0, 0, 0, 6144, 14336, 30720, 65534, 131070, 262142, 524287, 1048575]
theorem cohousingref29_Bounds.tab9 : rtab .any (opsOf Try.f23 9) = cohousingref29_Bounds.T9 := by kernel_rfl
theorem cohousingref29_Bounds.bits9 : waitsOk cohousingref29_Bounds.T9.2 cohousingref29_Bounds.B9 = true := by kernel_rfl
theorem cohousingref29_Bounds.calls (k : Nat) (a0 : Int) (a1 : Int) (A2 : Option Addr) (c2 : Nat) (l2 : List (S38)) (r1 : List (S38)) (r2 : Int) (w : World) (hr2 : Kd.C k38 w A2 l2.length l2) (hc2 : l2.length ≤ c2) (h : cohousingref29_Bounds.f k a0 a1 l2 = some (r1, r2)) :
  Calls Try.prog 23 #[.int .i64 a0, .int .i64 a1, .slice A2 l2.length c2] w fun e w' => ∃ v0_ : Value, e = .returned (.tuple #[v0_, .int .i64 r2]) ∧ Kd.R k38 38 w' w.heap.size (fun _ => True) v0_ r1 ∧ Below w.heap.size w w' := by
 have hu38 := Try.underlying38
 have HR2 := Aside0.mk hr2
 have HC2 := Aside0.mk hc2
 clear hr2 hc2
 have HB := Aside0.mk (Below.refl w.heap.size w)
 have H : ((cohousingref29_cost.f a0).bind fun t221 => ((cohousingref29_Parts.f k a1 l2).bind fun t222 => (if t221 = true then (cohousingref29_Bounds.j0 k a0 a1 l2 (!t222)) else (cohousingref29_Bounds.j0 k a0 a1 l2 true)))) = some (r1, r2) := h
 clear h
 replace H := Option.bind_eq_some_iff.mp H
 obtain ⟨t221, A40, H⟩ := H
 replace H : ((cohousingref29_Parts.f k a1 l2).bind fun t222 => (if t221 = true then (cohousingref29_Bounds.j0 k a0 a1 l2 (!t222)) else (cohousingref29_Bounds.j0 k a0 a1 l2 true))) = some (r1, r2) := H
 have A4 := Aside0.mk A40
 clear A40
 replace H := Option.bind_eq_some_iff.mp H
 obtain ⟨t222, A50, H⟩ := H
 replace H : (if t221 = true then (cohousingref29_Bounds.j0 k a0 a1 l2 (!t222)) else (cohousingref29_Bounds.j0 k a0 a1 l2 true)) = some (r1, r2) := H
 have A5 := Aside0.mk A50
 clear A50
 have HC6 := Aside0.mk H
 clear H
 go_enter Try.func23, Try.ntmps23
 go_upto_region 3 with (first | ((with_reducible refine gate_callee (f := 46) rfl ?_); refine gl_ (some 13) Try.func46 #[.int .i64 a0] ?_; (with_reducible refine (cohousingref29_cost.calls a0 t221 _ A4.out).mono ?_); rintro e w' ⟨rfl, ⟨nd, rfl⟩⟩; refine ⟨_, rfl, ?_⟩) | ((with_reducible refine gate_callee (f := 47) rfl ?_); refine gl_ (some 16) Try.func47 #[.int .i64 a1, .slice A2 l2.length c2] ?_; (with_reducible refine (cohousingref29_Parts.calls k a1 _ _ l2 t222 _ ?side1 ?side2 A5.out).mono ?_); (case side1 => exact cc_ (HR2.out)); (case side2 => exact HC2.out); rintro e w' ⟨rfl, ⟨nd, rfl⟩⟩; refine ⟨_, rfl, ?_⟩))
 (try simp only [Act.put, sI_, s0_, sS_])
 go_cut [22] (fun v22 wc => ∃ (kq : Nat) (x22_5 : Bool), v22 = .bool x22_5 ∧ Aside0 (cohousingref29_Bounds.j0 kq a0 a1 l2 x22_5 = some (r1, r2)) ∧ Aside0 (kq ≤ k) ∧ Aside0 (Below w.heap.size w wc))
 case first =>
  have H := HC6.out
  clear HC6
  by_cases c7 : t221 = true
  ·subst c7
   have H1 : (cohousingref29_Bounds.j0 k a0 a1 l2 (!t222)) = some (r1, r2) := by rw [if_pos rfl] at H; exact H
   clear H
   have H := H1
   clear H1
   have H' := Aside0.mk H
   clear H
   go_wp2
   go_meet
   case rel => exact ⟨_, (!t222), sd_, H', ⟨by first | omega | exact Nat.le_refl _⟩, ⟨by repeat (first | (with_reducible first | exact HB.out | apply below_alloc | apply pw_below_drewN | apply below_drew1) | exact HB.out)⟩⟩
  ·replace c7 := Bool.eq_false_iff.mpr c7
   subst c7
   have H1 : (cohousingref29_Bounds.j0 k a0 a1 l2 true) = some (r1, r2) := by rw [if_neg (show ¬ (false = true) by decide)] at H; exact H
   clear H
   have H := H1
   clear H1
   have H' := Aside0.mk H
   clear H
   go_wp2
   go_meet
   case rel => exact ⟨_, (true), sd_, H', ⟨by first | omega | exact Nat.le_refl _⟩, ⟨by repeat (first | (with_reducible first | exact HB.out | apply below_alloc | apply pw_below_drewN | apply below_drew1) | exact HB.out)⟩⟩
 case rest =>
  clear HC6
  try clear c2
  try clear p2
  try clear c4
  try clear c7
  obtain ⟨kq, x22_5, rfl, HA, HJ5, HB⟩ := hcut
  cases kq with
  | zero => exact absurd HA.out (by simp [cohousingref29_Bounds.j0])
  | succ kj5 =>
   have H := HA.out
   clear HA
   simp only [cohousingref29_Bounds.j0] at H
   by_cases c8 : x22_5 = true
   ·subst c8
    have H1 : (some (([] : List (S38)), 1)) = some (r1, r2) := by rw [if_pos rfl] at H; exact H
    clear H
    have H := H1
    clear H1
    simp only [Option.some.injEq, Prod.mk.injEq] at H
    obtain ⟨rfl, rfl⟩ := H
    go_wp2
    go_ret2
    exact ⟨_, ew_, by first | exact Kd.R_nil _ _ _ _ _ | exact Kd.N_nil _ _ _ _ _ | exact Kd.V_nil _ _ _ _ _ | exact Kd.Q_nil _ _ _ _ _ | exact Kd.S_nil _ _ _ _ _, by repeat (first | (with_reducible first | exact HB.out | apply below_alloc | apply pw_below_drewN | apply below_drew1) | exact HB.out)⟩
   ·replace c8 := Bool.eq_false_iff.mpr c8
    subst c8
    have H1 : (cohousingref29_Bounds.l0 kj5 a0 a1 l2 ([] : List (S38)) 0) = some (r1, r2) := by rw [if_neg (show ¬ (false = true) by decide)] at H; exact H
    clear H
    have H := H1
    clear H1
    have H' := Aside0.mk H
    clear H
    go_wp2
    go_loopg [10, 11] kj5 (fun kq v10 v11 w' => ∃ (x10_2 : List (S38)) (x11_2 : Int), v11 = .int .i64 x11_2 ∧ Aside0 (cohousingref29_Bounds.l0 kq a0 a1 l2 x10_2 x11_2 = some (r1, r2)) ∧ Aside0 (kq ≤ kj5) ∧ Aside0 (Kd.R k38 38 w' w.heap.size (fun _ => True) v10 x10_2) ∧ Aside0 (Below w.heap.size w w'))
    case atStart => exact ⟨(([] : List (S38))), (0), sd_, H', ⟨Nat.le_refl _⟩, ⟨by first | exact Kd.R_nil _ _ _ _ _ | exact Kd.N_nil _ _ _ _ _ | exact Kd.V_nil _ _ _ _ _ | exact Kd.Q_nil _ _ _ _ _ | exact Kd.S_nil _ _ _ _ _⟩, ⟨by repeat (first | (with_reducible first | exact HB.out | apply below_alloc | apply pw_below_drewN | apply below_drew1) | exact HB.out)⟩⟩
    case round =>
     clear H'
     try clear c2
     try clear p2
     try clear c4
     try clear c7
     try clear c8
     try clear p2
     obtain ⟨x10_2, x11_2, rfl, HA, HK2, HO_10, HB⟩ := hrel
     cases gk with
     | zero => exact absurd HA.out (by simp [cohousingref29_Bounds.l0])
     | succ k2 =>
      have H := HA.out
      clear HA
      simp only [cohousingref29_Bounds.l0] at H
      by_cases c9 : x11_2 < (l2.length : Int)
      ·rw [if_pos c9] at H
       have c9b0 : decide (x11_2 < (l2.length : Int)) = true := decide_eq_true c9
       clear c9
       by_cases c10 : 0 ≤ x11_2
       ·rw [if_pos c10] at H
        have c10b0 : decide (0 ≤ x11_2) = true := decide_eq_true c10
        clear c10
        replace H := Option.bind_eq_some_iff.mp H
        obtain ⟨t224, A110, H⟩ := H
        replace H : ((cohousingref29_Right.f k2 a0 a1 ((rd_T38 l2 x11_2).f1)).bind fun t226 => (if x10_2.length < 8796093022208 then (cohousingref29_Bounds.l0 k2 a0 a1 l2 (x10_2 ++ [(⟨t224, t226⟩ : S38)]) (wrap64 (x11_2 + 1))) else (none))) = some (r1, r2) := H
        have A11 := Aside0.mk A110
        clear A110
        replace H := Option.bind_eq_some_iff.mp H
        obtain ⟨t226, A120, H⟩ := H
        replace H : (if x10_2.length < 8796093022208 then (cohousingref29_Bounds.l0 k2 a0 a1 l2 (x10_2 ++ [(⟨t224, t226⟩ : S38)]) (wrap64 (x11_2 + 1))) else (none)) = some (r1, r2) := H
        have A12 := Aside0.mk A120
        clear A120
        by_cases c13 : x10_2.length < 8796093022208
        ·rw [if_pos c13] at H
         have LMc13 := Aside0.mk c13
         clear c13
         obtain ⟨y227, hy227⟩ : ∃ y_ : List (S38), y_ = (x10_2 ++ [(⟨t224, t226⟩ : S38)]) := ⟨_, rfl⟩
         replace H : (cohousingref29_Bounds.l0 k2 a0 a1 l2 y227 (wrap64 (x11_2 + 1))) = some (r1, r2) := by first | (rw [hy227]; with_reducible exact H) | (have H2_ := (Option.bind_some _ _).symm.trans H; rw [hy227]; with_reducible exact H2_) | (have H2_ := (Option.bind_some _ _).symm.trans H; with_reducible exact H2_) | with_reducible exact H | (rw [hy227]; exact H) | exact H
         have Ny227 := Aside0.mk hy227
         clear hy227
         have H' := Aside0.mk H
         clear H
         try go_wp2
         have n0_ := Aside0.mk (Kd.R_drew HO_10.out)
         have n1_ := Aside0.mk (below_drew1 HB.out)
         clear HO_10
         clear HB
         have HO_10 := n0_
         have HB := n1_
         clear n0_ n1_
         have p223 : 0 ≤ (x11_2 : Int) := od_
         have q223 : x11_2 < (l2.length : Int) := od_
         obtain ⟨ad223, e223, hx223_0, hx223_1⟩ := at_T38 HR2.out x11_2 p223 q223
         have hw223_1 := hx223_1
         have hw223_0 := hx223_0
         cases e223
         replace hx223_0 := (HB.out.cell (World.block_lt_of_cell? w _ hx223_0)).trans hx223_0
         replace hx223_1 := (HB.out.cell (World.block_lt_of_cell? w _ hx223_1)).trans hx223_1
         replace p223 := eq_true p223
         replace q223 := eq_true q223
         have p225 : 0 ≤ (x11_2 : Int) := od_
         have q225 : x11_2 < (l2.length : Int) := od_
         obtain ⟨ad225, e225, hx225_0, hx225_1⟩ := at_T38 HR2.out x11_2 p225 q225
         have hw225_1 := hx225_1
         have hw225_0 := hx225_0
         obtain rfl : ad223 = ad225 := (by injection e225)
         replace hx225_0 := (HB.out.cell (World.block_lt_of_cell? w _ hx225_0)).trans hx225_0
         replace hx225_1 := (HB.out.cell (World.block_lt_of_cell? w _ hx225_1)).trans hx225_1
         replace p225 := eq_true p225
         replace q225 := eq_true q225
         refine start_ (n := 21) (S := fun w' => w'.cell? (ad223.add ((x11_2).toNat * 2)) = some (.int .i64 ((rd_T38 l2 x11_2).f0)) ∧ w'.cell? ⟨(ad223.add ((x11_2).toNat * 2)).block, (ad223.add ((x11_2).toNat * 2)).off + 1, none⟩ = some (.int .i64 ((rd_T38 l2 x11_2).f1)) ∧ w'.cell? (ad223.add ((x11_2).toNat * 2)) = some (.int .i64 ((rd_T38 l2 x11_2).f0)) ∧ w'.cell? ⟨(ad223.add ((x11_2).toNat * 2)).block, (ad223.add ((x11_2).toNat * 2)).off + 1, none⟩ = some (.int .i64 ((rd_T38 l2 x11_2).f1))) (ds := []) #[n_, n_, n_, n_, n_, n_, n_, n_, n_, n_, n_, n_, n_, n_, n_, n_, n_, n_, n_, n_, n_] (by kernel_rfl) rfl rfl ⟨((HB.out.cell (World.block_lt_of_cell? w _ hw223_0)).trans hw223_0), ((HB.out.cell (World.block_lt_of_cell? w _ hw223_1)).trans hw223_1), ((HB.out.cell (World.block_lt_of_cell? w _ hw225_0)).trans hw225_0), ((HB.out.cell (World.block_lt_of_cell? w _ hw225_1)).trans hw225_1)⟩ (fun hHeld => ?_); refine with_tabW cohousingref29_Bounds.tab9 cohousingref29_Bounds.bits9 (fun HT_ HW_ => ?_)
         generalize wr.drew = w14 at HO_10 HB hx223_0 hx223_1 hx225_0 hx225_1 hHeld ⊢
         refine pu_ 0 29 (w_ 21 1) rfl HT_ ?_
         refine pu_ 1 30 (w_ 21 3) rfl HT_ ?_
         refine pu_ 2 31 (w_ 21 7) rfl HT_ ?_
         refine pu_ 3 32 (w_ 21 15) rfl HT_ ?_
         refine pu_ 4 33 (w_ 21 31) rfl HT_ ?_
         refine pu_ 5 34 (w_ 21 63) rfl HT_ ?_
         refine pu_ 6 35 (w_ 21 127) rfl HT_ ?_
         refine pu_ 9 38 (w_ 21 639) rfl HT_ ?_
         refine pu_ 10 39 (w_ 21 1663) rfl HT_ ?_
         refine pu_ 11 40 (w_ 21 3711) rfl HT_ ?_
         refine pu_ 12 41 (w_ 21 7807) rfl HT_ ?_
         refine pu_ 13 42 (w_ 21 15999) rfl HT_ ?_
         refine pu_ 14 43 (w_ 21 32383) rfl HT_ ?_
         refine ta_ 7 36 (w_ 21 32511) rfl HT_ HW_ hHeld (by rintro w' ⟨s0, s1, s2, s3⟩; go_simp; with_reducible rfl) ?_
         refine ta_ 15 44 (w_ 21 65279) rfl HT_ HW_ hHeld (by rintro w' ⟨s0, s1, s2, s3⟩; go_simp; with_reducible rfl) ?_
         refine one_ (i := 8) (N := some 37) (w_ 21 65535) rfl rfl (one_of HT_.out (by kernel_rfl)) (by decide) (fun K hK => ?_)
         refine goes_ Try.func19 (by kernel_rfl) rfl #[.int .i64 a0, .int .i64 a1, .int .i64 ((rd_T38 l2 x11_2).f0)] (by rfl) rfl rfl (by (try simp only [List.map_toArray, List.map_cons, List.map_nil]); first | done | rfl | (simp only [List.length_drop, List.length_take]; rfl)) ?_
         with_reducible refine (cohousingref29_Right.calls k2 a0 a1 ((rd_T38 l2 x11_2).f0) t224 _ A11.out).mono ?_
         rintro e w15 ⟨rfl, hb⟩
         refine ⟨_, rfl, ?_⟩
         have n0_ := Aside0.mk (Kd.R_below (rr_ HO_10) hb)
         have n1_ := Aside0.mk (below_step (bb_ HB) hb)
         clear HO_10
         clear HB
         have HO_10 := n0_
         have HB := n1_
         clear n0_ n1_
         (try clear hb)
         (try clear hb2)
         (try clear hk)
         (try clear hi)
         refine hK.out _ _ ⟨((HB.out.cell (World.block_lt_of_cell? w _ hw223_0)).trans hw223_0), ((HB.out.cell (World.block_lt_of_cell? w _ hw223_1)).trans hw223_1), ((HB.out.cell (World.block_lt_of_cell? w _ hw225_0)).trans hw225_0), ((HB.out.cell (World.block_lt_of_cell? w _ hw225_1)).trans hw225_1)⟩ (fun hHeld => ?_)
         clear hK K
         refine norm_ (a' := ?_) ?_ ?_
         rotate_left
         ·show Act.put _ (some 37) _ = _
          simp only [Act.put, sI_, s0_, sS_, i64_w, i32_w]
          rfl
         refine one_ (i := 16) (N := some 45) (w_ 21 131071) rfl rfl (one_of HT_.out (by kernel_rfl)) (by decide) (fun K hK => ?_)
         refine goes_ Try.func19 (by kernel_rfl) rfl #[.int .i64 a0, .int .i64 a1, .int .i64 ((rd_T38 l2 x11_2).f1)] (by rfl) rfl rfl (by (try simp only [List.map_toArray, List.map_cons, List.map_nil]); first | done | rfl | (simp only [List.length_drop, List.length_take]; rfl)) ?_
         with_reducible refine (cohousingref29_Right.calls k2 a0 a1 ((rd_T38 l2 x11_2).f1) t226 _ A12.out).mono ?_
         rintro e w16 ⟨rfl, hb⟩
         refine ⟨_, rfl, ?_⟩
         have n0_ := Aside0.mk (Kd.R_below (rr_ HO_10) hb)
         have n1_ := Aside0.mk (below_step (bb_ HB) hb)
         clear HO_10
         clear HB
         have HO_10 := n0_
         have HB := n1_
         clear n0_ n1_
         (try clear hb)
         (try clear hb2)
         (try clear hk)
         (try clear hi)
         refine hK.out _ _ ⟨((HB.out.cell (World.block_lt_of_cell? w _ hw223_0)).trans hw223_0), ((HB.out.cell (World.block_lt_of_cell? w _ hw223_1)).trans hw223_1), ((HB.out.cell (World.block_lt_of_cell? w _ hw225_0)).trans hw225_0), ((HB.out.cell (World.block_lt_of_cell? w _ hw225_1)).trans hw225_1)⟩ (fun hHeld => ?_)
         clear hK K
         refine norm_ (a' := ?_) ?_ ?_
         rotate_left
         ·show Act.put _ (some 45) _ = _
          simp only [Act.put, sI_, s0_, sS_, i64_w, i32_w]
          rfl
         refine pu_ 17 46 (w_ 21 262143) rfl HT_ ?_
         refine one_ (i := 18) (N := some 47) (w_ 21 524287) rfl rfl (one_of HT_.out (by kernel_rfl)) (by decide) (fun K hK => ?_)
         refine value_ (w1 := ?_) (v := ?_) (by rfl) rfl ?_ ?_
         rotate_left 2
         ·go_simp
          constructor
          ·rfl
          ·rfl
         refine hK.out _ _ ⟨(World.cell?_alloc_lt _ _ _ (World.block_lt_of_cell? _ _ (((HB.out.cell (World.block_lt_of_cell? w _ hw223_0)).trans hw223_0)))).trans (((HB.out.cell (World.block_lt_of_cell? w _ hw223_0)).trans hw223_0)), (World.cell?_alloc_lt _ _ _ (World.block_lt_of_cell? _ _ (((HB.out.cell (World.block_lt_of_cell? w _ hw223_1)).trans hw223_1)))).trans (((HB.out.cell (World.block_lt_of_cell? w _ hw223_1)).trans hw223_1)), (World.cell?_alloc_lt _ _ _ (World.block_lt_of_cell? _ _ (((HB.out.cell (World.block_lt_of_cell? w _ hw225_0)).trans hw225_0)))).trans (((HB.out.cell (World.block_lt_of_cell? w _ hw225_0)).trans hw225_0)), (World.cell?_alloc_lt _ _ _ (World.block_lt_of_cell? _ _ (((HB.out.cell (World.block_lt_of_cell? w _ hw225_1)).trans hw225_1)))).trans (((HB.out.cell (World.block_lt_of_cell? w _ hw225_1)).trans hw225_1))⟩ (fun hHeld => ?_)
         clear hK K
         refine norm_ (a' := ?_) ?_ ?_
         rotate_left
         ·show Act.put _ (some 47) _ = _
          simp only [Act.put, sI_, s0_, sS_, i64_w, i32_w]
          rfl
         refine one_ (i := 19) (N := some 48) (w_ 21 1048575) rfl rfl (one_of HT_.out (by kernel_rfl)) (by decide) (fun K hK => ?_)
         refine Kd.R_append_step k38 (w0 := w) w.heap.size (by rfl) (.tmp 29) (.tmp 47) 23 38 (.agg #[(.int .i64 0), (.int .i64 0)]) 16 rfl Try.underlying23 info38 rfl (by decide) (by omega) u10 x10_2 (⟨t224, t226⟩ : S38) [.int .i64 t224, .int .i64 t226] (fun _ => True) (fun _ => False) rfl rfl ?aP (fun _ hk => hk.elim) ?aF ?aO ?aB ?aS ?aL ?_
         (case aP => exact k38_mkM _ _ _ (⟨t224, t226⟩ : S38))
         (case aB => exact (bb_ HB))
         (case aF => exact (fun _ _ => trivial))
         (case aO => exact (rr_ HO_10))
         (case aS => exact (below_size (bb_ HB)))
         (case aL => have := LMc13.out; omega)
         intro v228 w17 ho hb hg hat
         rw [← Ny227.out] at ho
         have n0_ := Aside0.mk (hb)
         have n1_ := Aside0.mk (ho)
         clear HB
         clear HO_10
         have HB := n0_
         have HO229 := n1_
         clear n0_ n1_
         clear ho hb hg hat
         refine hK.out _ _ ⟨((HB.out.cell (World.block_lt_of_cell? w _ hw223_0)).trans hw223_0), ((HB.out.cell (World.block_lt_of_cell? w _ hw223_1)).trans hw223_1), ((HB.out.cell (World.block_lt_of_cell? w _ hw225_0)).trans hw225_0), ((HB.out.cell (World.block_lt_of_cell? w _ hw225_1)).trans hw225_1)⟩ (fun hHeld => ?_)
         clear hK K
         refine norm_ (a' := ?_) ?_ ?_
         rotate_left
         ·show Act.put _ (some 48) _ = _
          simp only [Act.put, sI_, s0_, sS_, i64_w, i32_w]
          rfl
         refine pu_ 20 10 (w_ 21 2097151) rfl HT_ ?_
         refine done_ (done_of HT_.out (by kernel_rfl)) ?_
         try go_wp2
         go_roundg k2
         case measure => have := HJ5.out; have := HK2.out; omega
         case rel => exact ⟨(y227), (wrap64 (x11_2 + 1)), sd_, H', ⟨by have := HJ5.out; have := HK2.out; omega⟩, ⟨by (with_reducible repeat (first | apply Kd.R_alloc | apply Kd.R_drewN | apply Kd.R_drew)); exact HO229.out⟩, ⟨by repeat (first | (with_reducible first | exact HB.out | apply below_alloc | apply pw_below_drewN | apply below_drew1) | exact HB.out)⟩⟩
        ·rw [if_neg c13] at H
         exact absurd H (by simp)
       ·rw [if_neg c10] at H
        exact absurd H (by simp)
      ·rw [if_neg c9] at H
       have c9b0 : decide (x11_2 < (l2.length : Int)) = false := decide_eq_false c9
       clear c9
       simp only [Option.some.injEq, Prod.mk.injEq] at H
       obtain ⟨rfl, rfl⟩ := H
       go_wp2
       go_ret2
       exact ⟨_, ew_, by (with_reducible repeat (first | apply Kd.R_alloc | apply Kd.R_drewN | apply Kd.R_drew)); exact HO_10.out, by repeat (first | (with_reducible first | exact HB.out | apply below_alloc | apply pw_below_drewN | apply below_drew1) | exact HB.out)⟩
end
section
attribute [local go_sem high] eqA38
def cohousingref28_Same.l0 : Nat → List (S38) → List (S38) → Int → Option (Bool)
 | 0, _, _, _ => none
 | k + 1, x0, x1, x5 => if x5 < (x0.length : Int) then (if 0 ≤ x5 then (if x5 < (x1.length : Int) then (if (!(((rd_T38 x0 x5).f0) == ((rd_T38 x1 x5).f0)) || (!(((rd_T38 x0 x5).f1) == ((rd_T38 x1 x5).f1)))) = true then (some false) else (cohousingref28_Same.l0 k x0 x1 (wrap64 (x5 + 1)))) else (none)) else (none)) else (some true)
def cohousingref28_Same.f (k : Nat) (l0 : List (S38)) (l1 : List (S38)) : Option (Bool) := if (l0.length : Int) = (l1.length : Int) then (cohousingref28_Same.l0 k l0 l1 0) else (some false)
theorem cohousingref28_Same.mono_l : ∀ k, (∀ y0 y1 y2, LeO (cohousingref28_Same.l0 k y0 y1 y2) (cohousingref28_Same.l0 (k + 1) y0 y1 y2))
 | 0 => fun _ _ _ r h => by simp [cohousingref28_Same.l0] at h
 | k + 1 => by
  have ih0 := cohousingref28_Same.mono_l k
  ·intro y0 y1 y2
   unfold cohousingref28_Same.l0
   repeat' first
   | (with_reducible exact ih0 _ _ _)
   | (with_reducible exact LeO.refl _)
   | (with_reducible exact LeO.none _)
   | (with_reducible refine LeO.ite ?_ ?_)
   | (with_reducible refine LeO.bind ?_ (fun _ => ?_))
   | exact ih0 _ _ _
   | exact LeO.none _
   | refine LeO.ite ?_ ?_
   | refine LeO.bind ?_ (fun _ => ?_)
theorem cohousingref28_Same.mono : ∀ a0 a1 k, LeO (cohousingref28_Same.f k a0 a1) (cohousingref28_Same.f (k + 1) a0 a1) := by
 intro a0 a1 k
 have ih0 := cohousingref28_Same.mono_l k
 unfold cohousingref28_Same.f
 repeat' first
   | (with_reducible exact ih0 _ _ _)
   | (with_reducible exact LeO.refl _)
   | (with_reducible exact LeO.none _)
   | (with_reducible refine LeO.ite ?_ ?_)
   | (with_reducible refine LeO.bind ?_ (fun _ => ?_))
   | exact ih0 _ _ _
   | exact LeO.none _
   | refine LeO.ite ?_ ?_
   | refine LeO.bind ?_ (fun _ => ?_)
theorem cohousingref28_Same.calls (k : Nat) (A0 : Option Addr) (c0 : Nat) (l0 : List (S38)) (A1 : Option Addr) (c1 : Nat) (l1 : List (S38)) (r : Bool) (w : World) (hr0 : Kd.C k38 w A0 l0.length l0) (hc0 : l0.length ≤ c0) (hr1 : Kd.C k38 w A1 l1.length l1) (hc1 : l1.length ≤ c1) (h : cohousingref28_Same.f k l0 l1 = some r) :
  Calls Try.prog 24 #[.slice A0 l0.length c0, .slice A1 l1.length c1] w fun e w' => e = .returned (.bool r) ∧ Drawn0 w w' := by
 have hu38 := Try.underlying38
 have HR0 := Aside0.mk hr0
 have HC0 := Aside0.mk hc0
 clear hr0 hc0
 have HR1 := Aside0.mk hr1
 have HC1 := Aside0.mk hc1
 clear hr1 hc1
 have H : (if (l0.length : Int) = (l1.length : Int) then (cohousingref28_Same.l0 k l0 l1 0) else (some false)) = some r := h
 clear h
 by_cases c3 : (l0.length : Int) = (l1.length : Int)
 ·rw [if_pos c3] at H
  have c3b0 : ((l0.length : Int) == (l1.length : Int)) = true := beq_iff_eq.mpr c3
  have c3b1 : ((l0.length : Int) != (l1.length : Int)) = false := bne_eq_false_iff_eq.mpr c3
  have c3b2 : (l0.length == l1.length) = true := by first | simpa using c3 | (simp at c3 ⊢; omega)
  clear c3
  have H' := Aside0.mk H
  clear H
  go_enter Try.func24, Try.ntmps24
  go_wp2
  repeat (go_quiet (fail); try go_wp2)
  go_loopg [5] k (fun kq v5 w' => ∃ (x5_1 : Int), v5 = .int .i64 x5_1 ∧ Aside0 (cohousingref28_Same.l0 kq l0 l1 x5_1 = some r) ∧ Aside0 (kq ≤ k) ∧ Drawn0 w w')
  case atStart => exact ⟨(0), sd_, H', ⟨Nat.le_refl _⟩, by repeat (first | exact Drawn0.refl _ | apply Drawn0.step)⟩
  case round =>
   clear H'
   try clear c1
   try clear c2
   try clear p2
   try clear c3
   try clear c3b0
   try clear c3b1
   try clear c3b2
   obtain ⟨x5_1, rfl, HA, HK1, ⟨m1, rfl⟩⟩ := hrel
   cases gk with
   | zero => exact absurd HA.out (by simp [cohousingref28_Same.l0])
   | succ k1 =>
    have H := HA.out
    clear HA
    simp only [cohousingref28_Same.l0] at H
    by_cases c4 : x5_1 < (l0.length : Int)
    ·rw [if_pos c4] at H
     have c4b0 : decide (x5_1 < (l0.length : Int)) = true := decide_eq_true c4
     clear c4
     by_cases c5 : 0 ≤ x5_1
     ·rw [if_pos c5] at H
      have c5b0 : decide (0 ≤ x5_1) = true := decide_eq_true c5
      clear c5
      by_cases c6 : x5_1 < (l1.length : Int)
      ·rw [if_pos c6] at H
       have c6b0 : decide (x5_1 < (l1.length : Int)) = true := decide_eq_true c6
       clear c6
       by_cases c7 : (!(((rd_T38 l0 x5_1).f0) == ((rd_T38 l1 x5_1).f0)) || (!(((rd_T38 l0 x5_1).f1) == ((rd_T38 l1 x5_1).f1)))) = true
       ·rw [if_pos c7] at H
        have c7b0 : (!(((rd_T38 l0 x5_1).f0) == ((rd_T38 l1 x5_1).f0)) || (!(((rd_T38 l0 x5_1).f1) == ((rd_T38 l1 x5_1).f1)))) = true := c7
        clear c7
        obtain rfl := Option.some.inj H
        have p230 : 0 ≤ (x5_1 : Int) := od_
        have q230 : x5_1 < (l0.length : Int) := od_
        obtain ⟨ad230, e230, hx230_0, hx230_1⟩ := at_T38 HR0.out x5_1 p230 q230
        cases e230
        replace p230 := eq_true p230
        replace q230 := eq_true q230
        have p231 : 0 ≤ (x5_1 : Int) := od_
        have q231 : x5_1 < (l1.length : Int) := od_
        obtain ⟨ad231, e231, hx231_0, hx231_1⟩ := at_T38 HR1.out x5_1 p231 q231
        cases e231
        replace p231 := eq_true p231
        replace q231 := eq_true q231
        go_wp2
        repeat (go_quiet (fail); try go_wp2)
        go_ret
        exact ⟨by first | rfl | (simp; done) | (simp [*]; done), by repeat (first | exact Drawn0.refl _ | apply Drawn0.step)⟩
       ·rw [if_neg c7] at H
        have c7b0 : (!(((rd_T38 l0 x5_1).f0) == ((rd_T38 l1 x5_1).f0)) || (!(((rd_T38 l0 x5_1).f1) == ((rd_T38 l1 x5_1).f1)))) = false := by simpa using c7
        clear c7
        have H' := Aside0.mk H
        clear H
        have p230 : 0 ≤ (x5_1 : Int) := od_
        have q230 : x5_1 < (l0.length : Int) := od_
        obtain ⟨ad230, e230, hx230_0, hx230_1⟩ := at_T38 HR0.out x5_1 p230 q230
        cases e230
        replace p230 := eq_true p230
        replace q230 := eq_true q230
        have p231 : 0 ≤ (x5_1 : Int) := od_
        have q231 : x5_1 < (l1.length : Int) := od_
        obtain ⟨ad231, e231, hx231_0, hx231_1⟩ := at_T38 HR1.out x5_1 p231 q231
        cases e231
        replace p231 := eq_true p231
        replace q231 := eq_true q231
        go_wp2
        repeat (go_quiet (fail); try go_wp2)
        go_roundg k1
        case measure => have := HK1.out; omega
        case rel => exact ⟨(wrap64 (x5_1 + 1)), sd_, H', ⟨by have := HK1.out; omega⟩, by repeat (first | exact Drawn0.refl _ | apply Drawn0.step)⟩
      ·rw [if_neg c6] at H
       exact absurd H (by simp)
     ·rw [if_neg c5] at H
      exact absurd H (by simp)
    ·rw [if_neg c4] at H
     have c4b0 : decide (x5_1 < (l0.length : Int)) = false := decide_eq_false c4
     clear c4
     obtain rfl := Option.some.inj H
     go_wp2
     repeat (go_quiet (fail); try go_wp2)
     go_ret
     exact ⟨by first | rfl | (simp; done) | (simp [*]; done), by repeat (first | exact Drawn0.refl _ | apply Drawn0.step)⟩
 ·rw [if_neg c3] at H
  have c3b0 : ((l0.length : Int) == (l1.length : Int)) = false := beq_eq_false_iff_ne.mpr c3
  have c3b1 : ((l0.length : Int) != (l1.length : Int)) = true := bne_iff_ne.mpr c3
  have c3b2 : (l0.length == l1.length) = false := by first | simpa using c3 | (simp at c3 ⊢; omega)
  obtain rfl := Option.some.inj H
  go_enter Try.func24, Try.ntmps24
  go_wp2
  repeat (go_quiet (fail); try go_wp2)
  go_ret
  exact ⟨by first | rfl | (simp; done) | (simp [*]; done), by repeat (first | exact Drawn0.refl _ | apply Drawn0.step)⟩
end
section
def cohousingref29_Homes.l0 : Nat → List Int → Int → Option (Bool)
 | 0, _, _ => none
 | k + 1, x0, x5 => if x5 < (x0.length : Int) then (if 0 ≤ x5 then (if (rd x0 x5) < 1 then (some false) else (if (rd x0 x5) > 64 then (some false) else (if x5 > 0 then (if 0 ≤ (wrap64 (x5 - 1)) then (if (wrap64 (x5 - 1)) < (x0.length : Int) then (if (rd x0 x5) ≤ (rd x0 (wrap64 (x5 - 1))) then (some false) else (cohousingref29_Homes.l0 k x0 (wrap64 (x5 + 1)))) else (none)) else (none)) else (cohousingref29_Homes.l0 k x0 (wrap64 (x5 + 1)))))) else (none)) else (some true)
def cohousingref29_Homes.f (k : Nat) (l0 : List Int) (a1 : Int) : Option (Bool) := if (l0.length : Int) = a1 then (cohousingref29_Homes.l0 k l0 0) else (some false)
theorem cohousingref29_Homes.mono_l : ∀ k, (∀ y0 y1, LeO (cohousingref29_Homes.l0 k y0 y1) (cohousingref29_Homes.l0 (k + 1) y0 y1))
 | 0 => fun _ _ r h => by simp [cohousingref29_Homes.l0] at h
 | k + 1 => by
  have ih0 := cohousingref29_Homes.mono_l k
  ·intro y0 y1
   unfold cohousingref29_Homes.l0
   repeat' first
   | (with_reducible exact ih0 _ _)
   | (with_reducible exact LeO.refl _)
   | (with_reducible exact LeO.none _)
   | (with_reducible refine LeO.ite ?_ ?_)
   | (with_reducible refine LeO.bind ?_ (fun _ => ?_))
   | exact ih0 _ _
   | exact LeO.none _
   | refine LeO.ite ?_ ?_
   | refine LeO.bind ?_ (fun _ => ?_)
theorem cohousingref29_Homes.mono : ∀ a0 a1 k, LeO (cohousingref29_Homes.f k a0 a1) (cohousingref29_Homes.f (k + 1) a0 a1) := by
 intro a0 a1 k
 have ih0 := cohousingref29_Homes.mono_l k
 unfold cohousingref29_Homes.f
 repeat' first
   | (with_reducible exact ih0 _ _)
   | (with_reducible exact LeO.refl _)
   | (with_reducible exact LeO.none _)
   | (with_reducible refine LeO.ite ?_ ?_)
   | (with_reducible refine LeO.bind ?_ (fun _ => ?_))
   | exact ih0 _ _
   | exact LeO.none _
   | refine LeO.ite ?_ ?_
   | refine LeO.bind ?_ (fun _ => ?_)
theorem cohousingref29_Homes.calls (k : Nat) (A0 : Option Addr) (c0 : Nat) (l0 : List Int) (a1 : Int) (r : Bool) (w : World) (hr0 : Kd.C (Kd.int .i64) w A0 l0.length l0) (hc0 : l0.length ≤ c0) (h : cohousingref29_Homes.f k l0 a1 = some r) :
  Calls Try.prog 50 #[.slice A0 l0.length c0, .int .i64 a1] w fun e w' => e = .returned (.bool r) ∧ Drawn0 w w' := by
 have HR0 := Aside0.mk hr0
 have HC0 := Aside0.mk hc0
 clear hr0 hc0
 have H : (if (l0.length : Int) = a1 then (cohousingref29_Homes.l0 k l0 0) else (some false)) = some r := h
 clear h
 by_cases c3 : (l0.length : Int) = a1
 ·rw [if_pos c3] at H
  have c3b0 : ((l0.length : Int) == a1) = true := beq_iff_eq.mpr c3
  have c3b1 : ((l0.length : Int) != a1) = false := bne_eq_false_iff_eq.mpr c3
  clear c3
  have H' := Aside0.mk H
  clear H
  go_enter Try.func50, Try.ntmps50
  go_wp2
  repeat (go_quiet (fail); try go_wp2)
  go_loopg [5] k (fun kq v5 w' => ∃ (x5_1 : Int), v5 = .int .i64 x5_1 ∧ Aside0 (cohousingref29_Homes.l0 kq l0 x5_1 = some r) ∧ Aside0 (kq ≤ k) ∧ Drawn0 w w')
  case atStart => exact ⟨(0), sd_, H', ⟨Nat.le_refl _⟩, by repeat (first | exact Drawn0.refl _ | apply Drawn0.step)⟩
  case round =>
   clear H'
   try clear p2
   try clear c3
   try clear c3b0
   try clear c3b1
   obtain ⟨x5_1, rfl, HA, HK1, ⟨m1, rfl⟩⟩ := hrel
   cases gk with
   | zero => exact absurd HA.out (by simp [cohousingref29_Homes.l0])
   | succ k1 =>
    have H := HA.out
    clear HA
    simp only [cohousingref29_Homes.l0] at H
    by_cases c4 : x5_1 < (l0.length : Int)
    ·rw [if_pos c4] at H
     have c4b0 : decide (x5_1 < (l0.length : Int)) = true := decide_eq_true c4
     clear c4
     by_cases c5 : 0 ≤ x5_1
     ·rw [if_pos c5] at H
      have c5b0 : decide (0 ≤ x5_1) = true := decide_eq_true c5
      clear c5
      by_cases c6 : (rd l0 x5_1) < 1
      ·rw [if_pos c6] at H
       have c6b0 : decide ((rd l0 x5_1) < 1) = true := decide_eq_true c6
       clear c6
       obtain rfl := Option.some.inj H
       have p232 : 0 ≤ (x5_1 : Int) := od_
       have q232 : x5_1 < (l0.length : Int) := od_
       obtain ⟨ad232, e232, hx232_0⟩ := Kd.at_int HR0.out x5_1 p232 q232
       cases e232
       replace p232 := eq_true p232
       replace q232 := eq_true q232
       go_wp2
       repeat (go_quiet (fail); try go_wp2)
       go_ret
       exact ⟨by first | rfl | (simp; done) | (simp [*]; done), by repeat (first | exact Drawn0.refl _ | apply Drawn0.step)⟩
      ·rw [if_neg c6] at H
       have c6b0 : decide ((rd l0 x5_1) < 1) = false := decide_eq_false c6
       clear c6
       by_cases c7 : (rd l0 x5_1) > 64
       ·rw [if_pos c7] at H
        have c7b0 : decide (64 < (rd l0 x5_1)) = true := decide_eq_true c7
        clear c7
        obtain rfl := Option.some.inj H
        have p232 : 0 ≤ (x5_1 : Int) := od_
        have q232 : x5_1 < (l0.length : Int) := od_
        obtain ⟨ad232, e232, hx232_0⟩ := Kd.at_int HR0.out x5_1 p232 q232
        cases e232
        replace p232 := eq_true p232
        replace q232 := eq_true q232
        have p233 : 0 ≤ (x5_1 : Int) := od_
        have q233 : x5_1 < (l0.length : Int) := od_
        obtain ⟨ad233, e233, hx233_0⟩ := Kd.at_int HR0.out x5_1 p233 q233
        obtain rfl : ad232 = ad233 := (by injection e233)
        replace p233 := eq_true p233
        replace q233 := eq_true q233
        go_wp2
        repeat (go_quiet (fail); try go_wp2)
        go_ret
        exact ⟨by first | rfl | (simp; done) | (simp [*]; done), by repeat (first | exact Drawn0.refl _ | apply Drawn0.step)⟩
       ·rw [if_neg c7] at H
        have c7b0 : decide (64 < (rd l0 x5_1)) = false := decide_eq_false c7
        clear c7
        by_cases c8 : x5_1 > 0
        ·rw [if_pos c8] at H
         have c8b0 : decide (0 < x5_1) = true := decide_eq_true c8
         clear c8
         obtain ⟨ji9, hji9⟩ : ∃ j_ : Int, (wrap64 (x5_1 - 1)) = j_ := ⟨_, rfl⟩
         replace H : (if 0 ≤ (ji9) then (if (ji9) < (l0.length : Int) then (if (rd l0 x5_1) ≤ (rd l0 (ji9)) then (some false) else (cohousingref29_Homes.l0 k1 l0 (wrap64 (x5_1 + 1)))) else (none)) else (none)) = some r := by first | (rw [hji9] at H; exact H) | (simp only [hji9] at H ⊢; exact H)
         have hji9w : (IntKind.i64.wrap (x5_1 - 1)) = ji9 := (i64_w _).trans hji9
         by_cases c10 : 0 ≤ (ji9)
         ·rw [if_pos c10] at H
          have c10b0 : decide (0 ≤ (ji9)) = true := decide_eq_true c10
          clear c10
          by_cases c11 : (ji9) < (l0.length : Int)
          ·rw [if_pos c11] at H
           have c11b0 : decide ((ji9) < (l0.length : Int)) = true := decide_eq_true c11
           clear c11
           by_cases c12 : (rd l0 x5_1) ≤ (rd l0 (ji9))
           ·rw [if_pos c12] at H
            have c12b0 : decide ((rd l0 x5_1) ≤ (rd l0 (ji9))) = true := decide_eq_true c12
            clear c12
            obtain rfl := Option.some.inj H
            have p232 : 0 ≤ (x5_1 : Int) := od_
            have q232 : x5_1 < (l0.length : Int) := od_
            obtain ⟨ad232, e232, hx232_0⟩ := Kd.at_int HR0.out x5_1 p232 q232
            cases e232
            replace p232 := eq_true p232
            replace q232 := eq_true q232
            have p233 : 0 ≤ (x5_1 : Int) := od_
            have q233 : x5_1 < (l0.length : Int) := od_
            obtain ⟨ad233, e233, hx233_0⟩ := Kd.at_int HR0.out x5_1 p233 q233
            obtain rfl : ad232 = ad233 := (by injection e233)
            replace p233 := eq_true p233
            replace q233 := eq_true q233
            have p234 : 0 ≤ (x5_1 : Int) := od_
            have q234 : x5_1 < (l0.length : Int) := od_
            obtain ⟨ad234, e234, hx234_0⟩ := Kd.at_int HR0.out x5_1 p234 q234
            obtain rfl : ad232 = ad234 := (by injection e234)
            replace p234 := eq_true p234
            replace q234 := eq_true q234
            have p235 : 0 ≤ ((ji9) : Int) := od_
            have q235 : (ji9) < (l0.length : Int) := od_
            obtain ⟨ad235, e235, hx235_0⟩ := Kd.at_int HR0.out (ji9) p235 q235
            obtain rfl : ad232 = ad235 := (by injection e235)
            replace p235 := eq_true p235
            replace q235 := eq_true q235
            go_wp2
            repeat (go_quiet (fail); try go_wp2)
            go_ret
            exact ⟨by first | rfl | (simp; done) | (simp only [← hji9] <;> (first | rfl | simp)) | (simp [*]; done), by repeat (first | exact Drawn0.refl _ | apply Drawn0.step)⟩
           ·rw [if_neg c12] at H
            have c12b0 : decide ((rd l0 x5_1) ≤ (rd l0 (ji9))) = false := decide_eq_false c12
            clear c12
            have H' := Aside0.mk H
            clear H
            have p232 : 0 ≤ (x5_1 : Int) := od_
            have q232 : x5_1 < (l0.length : Int) := od_
            obtain ⟨ad232, e232, hx232_0⟩ := Kd.at_int HR0.out x5_1 p232 q232
            cases e232
            replace p232 := eq_true p232
            replace q232 := eq_true q232
            have p233 : 0 ≤ (x5_1 : Int) := od_
            have q233 : x5_1 < (l0.length : Int) := od_
            obtain ⟨ad233, e233, hx233_0⟩ := Kd.at_int HR0.out x5_1 p233 q233
            obtain rfl : ad232 = ad233 := (by injection e233)
            replace p233 := eq_true p233
            replace q233 := eq_true q233
            have p234 : 0 ≤ (x5_1 : Int) := od_
            have q234 : x5_1 < (l0.length : Int) := od_
            obtain ⟨ad234, e234, hx234_0⟩ := Kd.at_int HR0.out x5_1 p234 q234
            obtain rfl : ad232 = ad234 := (by injection e234)
            replace p234 := eq_true p234
            replace q234 := eq_true q234
            have p235 : 0 ≤ ((ji9) : Int) := od_
            have q235 : (ji9) < (l0.length : Int) := od_
            obtain ⟨ad235, e235, hx235_0⟩ := Kd.at_int HR0.out (ji9) p235 q235
            obtain rfl : ad232 = ad235 := (by injection e235)
            replace p235 := eq_true p235
            replace q235 := eq_true q235
            go_wp2
            repeat (go_quiet (fail); try go_wp2)
            go_roundg k1
            case measure => have := HK1.out; omega
            case rel => exact ⟨(wrap64 (x5_1 + 1)), sd_, H', ⟨by have := HK1.out; omega⟩, by repeat (first | exact Drawn0.refl _ | apply Drawn0.step)⟩
          ·rw [if_neg c11] at H
           exact absurd H (by simp)
         ·rw [if_neg c10] at H
          exact absurd H (by simp)
        ·rw [if_neg c8] at H
         have c8b0 : decide (0 < x5_1) = false := decide_eq_false c8
         clear c8
         have H' := Aside0.mk H
         clear H
         have p232 : 0 ≤ (x5_1 : Int) := od_
         have q232 : x5_1 < (l0.length : Int) := od_
         obtain ⟨ad232, e232, hx232_0⟩ := Kd.at_int HR0.out x5_1 p232 q232
         cases e232
         replace p232 := eq_true p232
         replace q232 := eq_true q232
         have p233 : 0 ≤ (x5_1 : Int) := od_
         have q233 : x5_1 < (l0.length : Int) := od_
         obtain ⟨ad233, e233, hx233_0⟩ := Kd.at_int HR0.out x5_1 p233 q233
         obtain rfl : ad232 = ad233 := (by injection e233)
         replace p233 := eq_true p233
         replace q233 := eq_true q233
         go_wp2
         repeat (go_quiet (fail); try go_wp2)
         go_roundg k1
         case measure => have := HK1.out; omega
         case rel => exact ⟨(wrap64 (x5_1 + 1)), sd_, H', ⟨by have := HK1.out; omega⟩, by repeat (first | exact Drawn0.refl _ | apply Drawn0.step)⟩
     ·rw [if_neg c5] at H
      exact absurd H (by simp)
    ·rw [if_neg c4] at H
     have c4b0 : decide (x5_1 < (l0.length : Int)) = false := decide_eq_false c4
     clear c4
     obtain rfl := Option.some.inj H
     go_wp2
     repeat (go_quiet (fail); try go_wp2)
     go_ret
     exact ⟨by first | rfl | (simp; done) | (simp [*]; done), by repeat (first | exact Drawn0.refl _ | apply Drawn0.step)⟩
 ·rw [if_neg c3] at H
  have c3b0 : ((l0.length : Int) == a1) = false := beq_eq_false_iff_ne.mpr c3
  have c3b1 : ((l0.length : Int) != a1) = true := bne_iff_ne.mpr c3
  obtain rfl := Option.some.inj H
  go_enter Try.func50, Try.ntmps50
  go_wp2
  repeat (go_quiet (fail); try go_wp2)
  go_ret
  exact ⟨by first | rfl | (simp; done) | (simp [*]; done), by repeat (first | exact Drawn0.refl _ | apply Drawn0.step)⟩
end
section
mutual
def cohousingref29_Share.l0 : Nat → Int → Int → List Int → List (S38) → List (S38) → Int → Int → List (S43) → Int → Option ((List (S43)) × Int × Int)
 | 0, _, _, _, _, _, _, _, _, _ => none
 | k + 1, x0, x1, x2, x3, x11, x14, x15, x16, x17 => if x17 < (x3.length : Int) then (if 0 ≤ x17 then (if x17 < (x11.length : Int) then (if x17 < (x2.length : Int) then (if x16.length < 3518437208883 then (cohousingref29_Share.l0 k x0 x1 x2 x3 x11 (wrap64 (x14 + ((rd_T38 x3 x17).f0))) (wrap64 (x15 + (wrap64 (Int.tdiv (wrap64 (((rd_T38 x11 x17).f0) + ((rd_T38 x11 x17).f1))) 2)))) (x16 ++ [(⟨rd x2 x17, wrap64 (Int.tdiv (wrap64 (((rd_T38 x11 x17).f0) + ((rd_T38 x11 x17).f1))) 2), (⟨(rd_T38 x11 x17).f0, (rd_T38 x11 x17).f1⟩ : S38), (((rd_T38 x11 x17).f0) == ((rd_T38 x11 x17).f1))⟩ : S43)]) (wrap64 (x17 + 1))) else (none)) else (none)) else (none)) else (none)) else (if x14 > x1 then (some (([] : List (S43)), 0, 30)) else (cohousingref29_Share.l1 k x0 x15 x16 (wrap64 ((x16.length : Int) - 1))))
def cohousingref29_Share.l1 : Nat → Int → Int → List (S43) → Int → Option ((List (S43)) × Int × Int)
 | 0, _, _, _, _ => none
 | k + 1, x0, x15, x16, x20 => if x20 ≥ 0 then (if 0 ≤ x20 then (if x20 < (x16.length : Int) then (if (mn (wrap64 (x15 - x0)) (wrap64 (((rd_T43 x16 x20).f1) - ((rd_T43 x16 x20).f2.f0)))) > 0 then (cohousingref29_Share.l1 k x0 (wrap64 (x15 - (mn (wrap64 (x15 - x0)) (wrap64 (((rd_T43 x16 x20).f1) - ((rd_T43 x16 x20).f2.f0)))))) (x16.set (x20 : Int).toNat (⟨(rd_T43 x16 x20).f0, wrap64 (((rd_T43 x16 x20).f1) - (mn (wrap64 (x15 - x0)) (wrap64 (((rd_T43 x16 x20).f1) - ((rd_T43 x16 x20).f2.f0))))), (⟨(rd_T43 x16 x20).f2.f0, (rd_T43 x16 x20).f2.f1⟩ : S38), (rd_T43 x16 x20).f3⟩ : S43)) (wrap64 (x20 - 1))) else (cohousingref29_Share.l1 k x0 x15 x16 (wrap64 (x20 - 1)))) else (none)) else (none)) else (some (x16, wrap64 (x0 - x15), 0))
end
def cohousingref29_Share.f (k : Nat) (a0 : Int) (a1 : Int) (l2 : List Int) (l3 : List (S38)) : Option ((List (S43)) × Int × Int) := (cohousingref29_Bounds.f k a0 a1 l3).bind fun bt236 => (if bt236.2 = 0 then ((cohousingref29_Homes.f k l2 (l3.length : Int)).bind fun t240 => (if t240 = true then (cohousingref29_Share.l0 k a0 a1 l2 l3 bt236.1 0 0 ([] : List (S43)) 0) else (some (([] : List (S43)), 0, 1)))) else (some (([] : List (S43)), 0, bt236.2)))
theorem cohousingref29_Share.mono_l : ∀ k, (∀ y0 y1 y2 y3 y4 y5 y6 y7 y8, LeO (cohousingref29_Share.l0 k y0 y1 y2 y3 y4 y5 y6 y7 y8) (cohousingref29_Share.l0 (k + 1) y0 y1 y2 y3 y4 y5 y6 y7 y8)) ∧ (∀ y0 y1 y2 y3, LeO (cohousingref29_Share.l1 k y0 y1 y2 y3) (cohousingref29_Share.l1 (k + 1) y0 y1 y2 y3))
 | 0 => ⟨fun _ _ _ _ _ _ _ _ _ r h => by simp [cohousingref29_Share.l0] at h, fun _ _ _ _ r h => by simp [cohousingref29_Share.l1] at h⟩
 | k + 1 => by
  obtain ⟨ih0, ih1⟩ := cohousingref29_Share.mono_l k
  refine ⟨?_, ?_⟩
  ·intro y0 y1 y2 y3 y4 y5 y6 y7 y8
   unfold cohousingref29_Share.l0
   repeat' first
   | (with_reducible exact ih0 _ _ _ _ _ _ _ _ _)
   | (with_reducible exact ih1 _ _ _ _)
   | (with_reducible exact cohousingref29_Bounds.mono _ _ _ _)
   | (with_reducible exact cohousingref29_Homes.mono _ _ _)
   | (with_reducible exact LeO.refl _)
   | (with_reducible exact LeO.none _)
   | (with_reducible refine LeO.ite ?_ ?_)
   | (with_reducible refine LeO.bind ?_ (fun _ => ?_))
   | exact ih0 _ _ _ _ _ _ _ _ _
   | exact ih1 _ _ _ _
   | exact cohousingref29_Bounds.mono _ _ _ _
   | exact cohousingref29_Homes.mono _ _ _
   | exact LeO.none _
   | refine LeO.ite ?_ ?_
   | refine LeO.bind ?_ (fun _ => ?_)
  ·intro y0 y1 y2 y3
   unfold cohousingref29_Share.l1
   repeat' first
   | (with_reducible exact ih0 _ _ _ _ _ _ _ _ _)
   | (with_reducible exact ih1 _ _ _ _)
   | (with_reducible exact cohousingref29_Bounds.mono _ _ _ _)
   | (with_reducible exact cohousingref29_Homes.mono _ _ _)
   | (with_reducible exact LeO.refl _)
   | (with_reducible exact LeO.none _)
   | (with_reducible refine LeO.ite ?_ ?_)
   | (with_reducible refine LeO.bind ?_ (fun _ => ?_))
   | exact ih0 _ _ _ _ _ _ _ _ _
   | exact ih1 _ _ _ _
   | exact cohousingref29_Bounds.mono _ _ _ _
   | exact cohousingref29_Homes.mono _ _ _
   | exact LeO.none _
   | refine LeO.ite ?_ ?_
   | refine LeO.bind ?_ (fun _ => ?_)
theorem cohousingref29_Share.mono : ∀ a0 a1 a2 a3 k, LeO (cohousingref29_Share.f k a0 a1 a2 a3) (cohousingref29_Share.f (k + 1) a0 a1 a2 a3) := by
 intro a0 a1 a2 a3 k
 obtain ⟨ih0, ih1⟩ := cohousingref29_Share.mono_l k
 unfold cohousingref29_Share.f
 repeat' first
   | (with_reducible exact ih0 _ _ _ _ _ _ _ _ _)
   | (with_reducible exact ih1 _ _ _ _)
   | (with_reducible exact cohousingref29_Bounds.mono _ _ _ _)
   | (with_reducible exact cohousingref29_Homes.mono _ _ _)
   | (with_reducible exact LeO.refl _)
   | (with_reducible exact LeO.none _)
   | (with_reducible refine LeO.ite ?_ ?_)
   | (with_reducible refine LeO.bind ?_ (fun _ => ?_))
   | exact ih0 _ _ _ _ _ _ _ _ _
   | exact ih1 _ _ _ _
   | exact cohousingref29_Bounds.mono _ _ _ _
   | exact cohousingref29_Homes.mono _ _ _
   | exact LeO.none _
   | refine LeO.ite ?_ ?_
   | refine LeO.bind ?_ (fun _ => ?_)
def cohousingref29_Share.T17 : Bool × List (List Nat × List Nat) := (true, [([], []), ([], []), ([], []), ([1, 2], [1, 2]), ([3], [3]), ([], []), ([], []), ([], []), ([7], [7]), ([], []), ([9], [9]), ([8, 10], [8, 10]), ([4, 5, 6, 11], [4, 5, 6, 11]), ([12], [12]), ([0, 13], [0, 13]), ([14, 14, 0, 1, 2, 3, 4, 5, 6, 7, 8, 9, 10, 11, 12, 13, 14], [0, 14])])
def cohousingref29_Share.B17 : List Nat := [0, 0, 0, 6, 14, 0, 0, 0, 128, 0, 512, 1920, 4094, 8190, 16383, 32767]
theorem cohousingref29_Share.tab17 : rtab .any (opsOf Try.f26 17) = cohousingref29_Share.T17 := by kernel_rfl
theorem cohousingref29_Share.bits17 : waitsOk cohousingref29_Share.T17.2 cohousingref29_Share.B17 = true := by kernel_rfl
def cohousingref29_Share.T23 : Bool × List (List Nat × List Nat) := (true, [([], []), ([], []), ([0, 1], [0, 1]), ([], []), ([], []), ([3, 4], [3, 4]), ([5], [5]), ([6], [6]), ([], []), ([], []), ([8, 9], [8, 9]), ([10], [10]), ([11], [11]), ([12], [12]), ([7, 13], [7, 13]), ([2, 14], [2, 14]), ([15, 0, 1, 2, 3, 4, 5, 6, 7, 8, 9, 10, 11, 12, 13, 14, 15], [15])])
def cohousingref29_Share.B23 : List Nat := [0, 0, 3, 0, 0, 24, 56, 120, 0, 0, 768, 1792, 3840, 7936, 16376, 32767, 65535]
theorem cohousingref29_Share.tab23 : rtab .any (opsOf Try.f26 23) = cohousingref29_Share.T23 := by kernel_rfl
theorem cohousingref29_Share.bits23 : waitsOk cohousingref29_Share.T23.2 cohousingref29_Share.B23 = true := by kernel_rfl
theorem cohousingref29_Share.calls (k : Nat) (a0 : Int) (a1 : Int) (A2 : Option Addr) (c2 : Nat) (l2 : List Int) (A3 : Option Addr) (c3 : Nat) (l3 : List (S38)) (r1 : List (S43)) (r2 : Int) (r3 : Int) (w : World) (hr2 : Kd.C (Kd.int .i64) w A2 l2.length l2) (hc2 : l2.length ≤ c2) (hr3 : Kd.C k38 w A3 l3.length l3) (hc3 : l3.length ≤ c3) (h : cohousingref29_Share.f k a0 a1 l2 l3 = some (r1, r2, r3)) :
  Calls Try.prog 26 #[.int .i64 a0, .int .i64 a1, .slice A2 l2.length c2, .slice A3 l3.length c3] w fun e w' => ∃ v0_ : Value, e = .returned (.tuple #[v0_, .int .i64 r2, .int .i64 r3]) ∧ Kd.R k43 43 w' w.heap.size (fun _ => True) v0_ r1 ∧ Below w.heap.size w w' := by
 have hu38 := Try.underlying38
 have hu43 := Try.underlying43
 have HR2 := Aside0.mk hr2
 have HC2 := Aside0.mk hc2
 clear hr2 hc2
 have HR3 := Aside0.mk hr3
 have HC3 := Aside0.mk hc3
 clear hr3 hc3
 have HB := Aside0.mk (Below.refl w.heap.size w)
 have H : ((cohousingref29_Bounds.f k a0 a1 l3).bind fun bt236 => (if bt236.2 = 0 then ((cohousingref29_Homes.f k l2 (l3.length : Int)).bind fun t240 => (if t240 = true then (cohousingref29_Share.l0 k a0 a1 l2 l3 bt236.1 0 0 ([] : List (S43)) 0) else (some (([] : List (S43)), 0, 1)))) else (some (([] : List (S43)), 0, bt236.2)))) = some (r1, r2, r3) := h
 clear h
 replace H := Option.bind_eq_some_iff.mp H
 obtain ⟨⟨t236, t237⟩, A50, H⟩ := H
 replace H : (if t237 = 0 then ((cohousingref29_Homes.f k l2 (l3.length : Int)).bind fun t240 => (if t240 = true then (cohousingref29_Share.l0 k a0 a1 l2 l3 t236 0 0 ([] : List (S43)) 0) else (some (([] : List (S43)), 0, 1)))) else (some (([] : List (S43)), 0, t237))) = some (r1, r2, r3) := H
 have A5 := Aside0.mk A50
 clear A50
 by_cases c6 : t237 = 0
 ·rw [if_pos c6] at H
  have c6b0 : (t237 == 0) = true := beq_iff_eq.mpr c6
  have c6b1 : (t237 != 0) = false := bne_eq_false_iff_eq.mpr c6
  clear c6
  replace H := Option.bind_eq_some_iff.mp H
  obtain ⟨t240, A70, H⟩ := H
  replace H : (if t240 = true then (cohousingref29_Share.l0 k a0 a1 l2 l3 t236 0 0 ([] : List (S43)) 0) else (some (([] : List (S43)), 0, 1))) = some (r1, r2, r3) := H
  have A7 := Aside0.mk A70
  clear A70
  by_cases c8 : t240 = true
  ·subst c8
   have H1 : (cohousingref29_Share.l0 k a0 a1 l2 l3 t236 0 0 ([] : List (S43)) 0) = some (r1, r2, r3) := by rw [if_pos rfl] at H; exact H
   clear H
   have H := H1
   clear H1
   have H' := Aside0.mk H
   clear H
   go_enter Try.func26, Try.ntmps26
   go_wp2_with (first | ((with_reducible refine gate_callee (f := 23) rfl ?_); refine gl_ (some 26) Try.func23 #[.int .i64 a0, .int .i64 a1, .slice A3 l3.length c3] ?_; (with_reducible refine (cohousingref29_Bounds.calls k a0 a1 _ _ l3 t236 t237 _ ?side1 ?side2 A5.out).mono ?_); (case side1 => exact cc_ (HR3.out)); (case side2 => exact HC3.out); rintro e w9 ⟨v238, rfl, ho0, hb⟩; refine ⟨_, rfl, ?_⟩; have n0_ := Aside0.mk (Kd.R_lower ho0 (below_size (bb_ HB))); have n1_ := Aside0.mk (below_step (bb_ HB) hb); clear HB; have HO239 := n0_; have HB := n1_; clear n0_ n1_; (try clear hb); (try clear hb2); (try clear hk); (try clear hi); (try clear ho0)) | ((with_reducible refine gate_callee (f := 50) rfl ?_); refine gl_ (some 35) Try.func50 #[.slice A2 l2.length c2, .int .i64 (l3.length : Int)] ?_; (with_reducible refine (cohousingref29_Homes.calls k _ _ l2 (l3.length : Int) true _ ?side1 ?side2 A7.out).mono ?_); (case side1 => exact cc_ ((Kd.C_below HR2.out HB.out))); (case side2 => exact HC2.out); rintro e w' ⟨rfl, ⟨nd, rfl⟩⟩; refine ⟨_, rfl, ?_⟩))
   go_loopg [14, 15, 16, 17] k (fun kq v14 v15 v16 v17 w' => ∃ (x14_1 : Int) (x15_1 : Int) (x16_1 : List (S43)) (x17_1 : Int), v14 = .int .i64 x14_1 ∧ v15 = .int .i64 x15_1 ∧ v17 = .int .i64 x17_1 ∧ Aside0 (cohousingref29_Share.l0 kq a0 a1 l2 l3 t236 x14_1 x15_1 x16_1 x17_1 = some (r1, r2, r3)) ∧ Aside0 (kq ≤ k) ∧ Aside0 (Kd.R k38 38 w' w.heap.size (fun _ => True) v238 t236) ∧ Aside0 (Kd.R k43 43 w' w.heap.size (fun _ => True) v16 x16_1) ∧ Aside0 (Below w.heap.size w w'))
   case atStart => exact ⟨(0), (0), (([] : List (S43))), (0), sd_, sd_, sd_, H', ⟨Nat.le_refl _⟩, ⟨by (with_reducible repeat (first | apply Kd.R_alloc | apply Kd.R_drewN | apply Kd.R_drew)); exact HO239.out⟩, ⟨by first | exact Kd.R_nil _ _ _ _ _ | exact Kd.N_nil _ _ _ _ _ | exact Kd.V_nil _ _ _ _ _ | exact Kd.Q_nil _ _ _ _ _ | exact Kd.S_nil _ _ _ _ _⟩, ⟨by repeat (first | (with_reducible first | exact HB.out | apply below_alloc | apply pw_below_drewN | apply below_drew1) | exact HB.out)⟩⟩
   case round =>
    clear H'
    try clear c2
    try clear p2
    try clear c3
    try clear c5
    try clear c6
    try clear c6b0
    try clear c6b1
    try clear c8
    obtain ⟨x14_1, x15_1, x16_1, x17_1, rfl, rfl, rfl, HA, HK1, HO_11, HO_16, HB⟩ := hrel
    cases gk with
    | zero => exact absurd HA.out (by simp [cohousingref29_Share.l0])
    | succ k1 =>
     have H := HA.out
     clear HA
     simp only [cohousingref29_Share.l0] at H
     by_cases c10 : x17_1 < (l3.length : Int)
     ·rw [if_pos c10] at H
      have c10b0 : decide (x17_1 < (l3.length : Int)) = true := decide_eq_true c10
      clear c10
      by_cases c11 : 0 ≤ x17_1
      ·rw [if_pos c11] at H
       have c11b0 : decide (0 ≤ x17_1) = true := decide_eq_true c11
       clear c11
       by_cases c12 : x17_1 < (t236.length : Int)
       ·rw [if_pos c12] at H
        have c12b0 : decide (x17_1 < (t236.length : Int)) = true := decide_eq_true c12
        clear c12
        by_cases c13 : x17_1 < (l2.length : Int)
        ·rw [if_pos c13] at H
         have c13b0 : decide (x17_1 < (l2.length : Int)) = true := decide_eq_true c13
         clear c13
         by_cases c14 : x16_1.length < 3518437208883
         ·rw [if_pos c14] at H
          have LMc14 := Aside0.mk c14
          clear c14
          obtain ⟨y245, hy245⟩ : ∃ y_ : List (S43), y_ = (x16_1 ++ [(⟨rd l2 x17_1, wrap64 (Int.tdiv (wrap64 (((rd_T38 t236 x17_1).f0) + ((rd_T38 t236 x17_1).f1))) 2), (⟨(rd_T38 t236 x17_1).f0, (rd_T38 t236 x17_1).f1⟩ : S38), (((rd_T38 t236 x17_1).f0) == ((rd_T38 t236 x17_1).f1))⟩ : S43)]) := ⟨_, rfl⟩
          replace H : (cohousingref29_Share.l0 k1 a0 a1 l2 l3 t236 (wrap64 (x14_1 + ((rd_T38 l3 x17_1).f0))) (wrap64 (x15_1 + (wrap64 (Int.tdiv (wrap64 (((rd_T38 t236 x17_1).f0) + ((rd_T38 t236 x17_1).f1))) 2)))) y245 (wrap64 (x17_1 + 1))) = some (r1, r2, r3) := by first | (rw [hy245]; with_reducible exact H) | (have H2_ := (Option.bind_some _ _).symm.trans H; rw [hy245]; with_reducible exact H2_) | (have H2_ := (Option.bind_some _ _).symm.trans H; with_reducible exact H2_) | with_reducible exact H | (rw [hy245]; exact H) | exact H
          have Ny245 := Aside0.mk hy245
          clear hy245
          have H' := Aside0.mk H
          clear H
          have p241 : 0 ≤ (x17_1 : Int) := od_
          have q241 : x17_1 < (l3.length : Int) := od_
          obtain ⟨ad241, e241, hx241_0, hx241_1⟩ := at_T38 HR3.out x17_1 p241 q241
          cases e241
          replace hx241_0 := (HB.out.cell (World.block_lt_of_cell? w _ hx241_0)).trans hx241_0
          replace hx241_1 := (HB.out.cell (World.block_lt_of_cell? w _ hx241_1)).trans hx241_1
          replace p241 := eq_true p241
          replace q241 := eq_true q241
          obtain ⟨Ao15, co15, eo15⟩ := Kd.R_slice HO_11.out
          subst eo15
          have p242 : 0 ≤ (x17_1 : Int) := od_
          have q242 : x17_1 < (t236.length : Int) := od_
          obtain ⟨ad242, e242, hx242_0, hx242_1⟩ := at_T38 (Kd.R_reads' HO_11.out).2.2 x17_1 p242 q242
          cases e242
          replace p242 := eq_true p242
          replace q242 := eq_true q242
          try go_wp2_with (first | ((with_reducible refine gate_dst (N := 18) rfl ?_); refine box_event ?hg (N := 18) ?hd (cs := #[.int .i64 0, .int .i64 0]) (t := 38) ?hr ?_; (case hd => rfl); (case hg => rfl); (case hr => first | (go_simp; done) | (go_simp; rfl)); intro gb243 hg w16 hbox hb; have n0_ := Aside0.mk (Kd.R_below (Kd.R_elderB (rr_ HO_11) gb243 (Nat.le_of_eq hg.symm)) hb); have n1_ := Aside0.mk (Kd.R_below (rr_ HO_16) hb); have n2_ := Aside0.mk (below_step (bb_ HB) hb); have n3_ := Aside0.mk (hbox); have n4_ := Aside0.mk ((by rw [hg]; exact (below_size (bb_ HB)) : w.heap.size ≤ gb243)); have n5_ := Aside0.mk ((by rw [hg]; exact (below_size (bb_ HB)) : w.heap.size ≤ gb243)); clear HO_11; clear HO_16; clear HB; have HO_11 := n0_; have HO_16 := n1_; have HB := n2_; have BK243 := n3_; have GW243 := n4_; have GE243 := n5_; clear n0_ n1_ n2_ n3_ n4_ n5_; clear hb hbox hg; have hcz17_0 : w16.cell? ⟨gb243, 0, none⟩ = some (.int .i64 0) := (blk_cell BK243.out 0).trans rfl; have hcz17_1 : w16.cell? ⟨gb243, 1, none⟩ = some (.int .i64 0) := (blk_cell BK243.out 1).trans rfl; have hfz17_0 := blk_frozen BK243.out 0; have hfz17_1 := blk_frozen BK243.out 1))
          have n0_ : Aside0 (Kd.R k38 38 ((w16.setCell ⟨gb243, 0, none⟩ (.int .i64 ((rd_T38 t236 x17_1).f0))).setCell ⟨gb243, 1, none⟩ (.int .i64 ((rd_T38 t236 x17_1).f1))) w.heap.size (fun k_ => k_ ≠ gb243) (.slice (some ad242) t236.length co15) t236) := ⟨by (with_reducible repeat (first | apply Kd.R_alloc | apply Kd.R_drewN | apply Kd.R_drew)); exact Kd.R_mono (Kd.R_far (p := ⟨gb243, 1, none⟩) (Kd.R_far (p := ⟨gb243, 0, none⟩) (Kd.R_mono HO_11.out (fun k_ hk => (⟨hk, hk.2⟩ : _ ∧ k_ ≠ gb243))) (fun _ hk => hk.2) (.int .i64 ((rd_T38 t236 x17_1).f0))) (fun _ hk => hk.2) (.int .i64 ((rd_T38 t236 x17_1).f1))) (fun _ hk => hk.1.2)⟩
          have n1_ : Aside0 (Kd.R k43 43 ((w16.setCell ⟨gb243, 0, none⟩ (.int .i64 ((rd_T38 t236 x17_1).f0))).setCell ⟨gb243, 1, none⟩ (.int .i64 ((rd_T38 t236 x17_1).f1))) w.heap.size (fun _ => True) u16 x16_1) := ⟨by (with_reducible repeat (first | apply Kd.R_alloc | apply Kd.R_drewN | apply Kd.R_drew)); exact Kd.R_mono (Kd.R_far (p := ⟨gb243, 1, none⟩) (Kd.R_far (p := ⟨gb243, 0, none⟩) (Kd.R_types HO_16.out BK243.out (by decide)) (fun _ hk => hk.2) (.int .i64 ((rd_T38 t236 x17_1).f0))) (fun _ hk => hk.2) (.int .i64 ((rd_T38 t236 x17_1).f1))) (fun _ hk => trivial)⟩
          have n2_ : Aside0 (((w16.setCell ⟨gb243, 0, none⟩ (.int .i64 ((rd_T38 t236 x17_1).f0))).setCell ⟨gb243, 1, none⟩ (.int .i64 ((rd_T38 t236 x17_1).f1))).heap[gb243]? = some (.cells #[.int .i64 ((rd_T38 t236 x17_1).f0), .int .i64 ((rd_T38 t236 x17_1).f1)] 38 (0, 0))) := ⟨by (with_reducible repeat (first | refine blk_drewN ?_ _ | refine blk_drew ?_ | refine blk_alloc ?_ _)); refine blk_put (cs := #[.int .i64 ((rd_T38 t236 x17_1).f0), .int .i64 0]) ?_ 1 _ rfl; (with_reducible repeat (first | refine blk_drewN ?_ _ | refine blk_drew ?_ | refine blk_alloc ?_ _)); refine blk_put (cs := #[.int .i64 0, .int .i64 0]) ?_ 0 _ rfl; (with_reducible repeat (first | refine blk_drewN ?_ _ | refine blk_drew ?_ | refine blk_alloc ?_ _)); exact BK243.out⟩
          have n3_ : Aside0 (Below w.heap.size w ((w16.setCell ⟨gb243, 0, none⟩ (.int .i64 ((rd_T38 t236 x17_1).f0))).setCell ⟨gb243, 1, none⟩ (.int .i64 ((rd_T38 t236 x17_1).f1)))) := ⟨by repeat (first | (with_reducible first | exact HB.out | apply below_alloc | apply pw_below_drewN | apply below_drew1 | refine below_set ?_ GE243.out) | exact HB.out)⟩
          (try clear HO_11)
          (try clear HO_16)
          (try clear BK243)
          (try clear HB)
          generalize ((w16.setCell ⟨gb243, 0, none⟩ (.int .i64 ((rd_T38 t236 x17_1).f0))).setCell ⟨gb243, 1, none⟩ (.int .i64 ((rd_T38 t236 x17_1).f1))) = w18 at n0_ n1_ n2_ n3_ ⊢
          have HO_11 := n0_
          have HO_16 := n1_
          have BK243 := n2_
          have HB := n3_
          clear n0_ n1_ n2_ n3_
          have n0_ := Aside0.mk (Kd.R_drew HO_11.out)
          have n1_ := Aside0.mk (Kd.R_drew HO_16.out)
          have n2_ := Aside0.mk (blk_drew BK243.out)
          have n3_ := Aside0.mk (below_drew1 HB.out)
          clear HO_11
          clear HO_16
          clear BK243
          clear HB
          have HO_11 := n0_
          have HO_16 := n1_
          have BK243 := n2_
          have HB := n3_
          clear n0_ n1_ n2_ n3_
          have p244 : 0 ≤ (x17_1 : Int) := od_
          have q244 : x17_1 < (l2.length : Int) := od_
          obtain ⟨ad244, e244, hx244_0⟩ := Kd.at_int HR2.out x17_1 p244 q244
          have hw244_0 := hx244_0
          cases e244
          replace hx244_0 := (HB.out.cell (World.block_lt_of_cell? w _ hx244_0)).trans hx244_0
          replace p244 := eq_true p244
          replace q244 := eq_true q244
          refine start_ (n := 16) (S := fun w' => w'.cell? ⟨gb243, 0, none⟩ = some (.int .i64 ((rd_T38 t236 x17_1).f0)) ∧ w'.cell? ⟨gb243, 1, none⟩ = some (.int .i64 ((rd_T38 t236 x17_1).f1)) ∧ w'.cell? (ad244.add (x17_1).toNat) = some (.int .i64 (rd l2 x17_1))) (ds := []) #[n_, n_, n_, n_, n_, n_, n_, n_, n_, n_, n_, n_, n_, n_, n_, n_] (by kernel_rfl) rfl rfl ⟨(blk_cell BK243.out 0).trans rfl, (blk_cell BK243.out 1).trans rfl, ((HB.out.cell (World.block_lt_of_cell? w _ hw244_0)).trans hw244_0)⟩ (fun hHeld => ?_); refine with_tabW cohousingref29_Share.tab17 cohousingref29_Share.bits17 (fun HT_ HW_ => ?_)
          generalize w18.drew = w19 at HO_11 HO_16 BK243 HB hx244_0 hHeld ⊢
          refine pu_ 0 64 (w_ 16 1) rfl HT_ ?_
          refine pu_ 1 65 (w_ 16 3) rfl HT_ ?_
          refine pu_ 2 66 (w_ 16 7) rfl HT_ ?_
          refine pu_ 3 67 (w_ 16 15) rfl HT_ ?_
          refine pu_ 5 69 (w_ 16 47) rfl HT_ ?_
          refine pu_ 7 71 (w_ 16 175) rfl HT_ ?_
          refine pu_ 9 73 (w_ 16 687) rfl HT_ ?_
          refine ta_ 4 68 (w_ 16 703) rfl HT_ HW_ hHeld (by rintro w' ⟨s0, s1, s2⟩; go_simp; with_reducible rfl) ?_
          refine ta_ 6 70 (w_ 16 767) rfl HT_ HW_ hHeld (by rintro w' ⟨s0, s1, s2⟩; go_simp; with_reducible rfl) ?_
          refine ta_ 8 72 (w_ 16 1023) rfl HT_ HW_ hHeld (by rintro w' ⟨s0, s1, s2⟩; go_simp; with_reducible rfl) ?_
          refine ta_ 10 74 (w_ 16 2047) rfl HT_ HW_ hHeld (by rintro w' ⟨s0, s1, s2⟩; go_simp; with_reducible rfl) ?_
          refine pu_ 11 75 (w_ 16 4095) rfl HT_ ?_
          refine pu_ 12 76 (w_ 16 8191) rfl HT_ ?_
          refine one_ (i := 13) (N := some 77) (w_ 16 16383) rfl rfl (one_of HT_.out (by kernel_rfl)) (by decide) (fun K hK => ?_)
          refine value_ (w1 := ?_) (v := ?_) (by rfl) rfl ?_ ?_
          rotate_left 2
          ·go_simp
           constructor
           ·rfl
           ·rfl
          refine hK.out _ _ ⟨(blk_cell (blk_alloc BK243.out _) 0).trans rfl, (blk_cell (blk_alloc BK243.out _) 1).trans rfl, (World.cell?_alloc_lt _ _ _ (World.block_lt_of_cell? _ _ (((HB.out.cell (World.block_lt_of_cell? w _ hw244_0)).trans hw244_0)))).trans (((HB.out.cell (World.block_lt_of_cell? w _ hw244_0)).trans hw244_0))⟩ (fun hHeld => ?_)
          clear hK K
          refine norm_ (a' := ?_) ?_ ?_
          rotate_left
          ·show Act.put _ (some 77) _ = _
           simp only [Act.put, sI_, s0_, sS_, i64_w, i32_w]
           rfl
          refine one_ (i := 14) (N := some 78) (w_ 16 32767) rfl rfl (one_of HT_.out (by kernel_rfl)) (by decide) (fun K hK => ?_)
          refine Kd.R_append_step k43 (w0 := w) w.heap.size (by rfl) (.tmp 64) (.tmp 77) 30 43 (.agg #[(.int .i64 0), (.int .i64 0), (.int .i64 0), (.int .i64 0), (.bool false)]) 40 rfl Try.underlying30 info43 rfl (by decide) (by omega) u16 x16_1 (⟨rd l2 x17_1, wrap64 (Int.tdiv (wrap64 (((rd_T38 t236 x17_1).f0) + ((rd_T38 t236 x17_1).f1))) 2), (⟨(rd_T38 t236 x17_1).f0, (rd_T38 t236 x17_1).f1⟩ : S38), (((rd_T38 t236 x17_1).f0) == ((rd_T38 t236 x17_1).f1))⟩ : S43) [.int .i64 (rd l2 x17_1), .int .i64 (wrap64 (Int.tdiv (wrap64 (((rd_T38 t236 x17_1).f0) + ((rd_T38 t236 x17_1).f1))) 2)), .int .i64 ((rd_T38 t236 x17_1).f0), .int .i64 ((rd_T38 t236 x17_1).f1), .bool (((rd_T38 t236 x17_1).f0) == ((rd_T38 t236 x17_1).f1))] (fun _ => True) (fun _ => False) rfl rfl ?aP (fun _ hk => hk.elim) ?aF ?aO ?aB ?aS ?aL ?_
          (case aP => exact k43_mkM _ _ _ (⟨rd l2 x17_1, wrap64 (Int.tdiv (wrap64 (((rd_T38 t236 x17_1).f0) + ((rd_T38 t236 x17_1).f1))) 2), (⟨(rd_T38 t236 x17_1).f0, (rd_T38 t236 x17_1).f1⟩ : S38), (((rd_T38 t236 x17_1).f0) == ((rd_T38 t236 x17_1).f1))⟩ : S43))
          (case aB => exact (bs_ HB GE243.out))
          (case aF => exact (fun _ _ => trivial))
          (case aO => exact (rr_ HO_16))
          (case aS => exact (below_size (bs_ HB GE243.out)))
          (case aL => have := LMc14.out; omega)
          intro v246 w20 ho hb hg hat
          rw [← Ny245.out] at ho
          have n0_ := Aside0.mk (Kd.R_over' (rr_ HO_11) (Kd.R_typed (rr_ HO_16)) (by decide) hg)
          have n1_ := Aside0.mk (blk_grown (g := gb243) (o := .cells #[.int .i64 ((rd_T38 t236 x17_1).f0), .int .i64 ((rd_T38 t236 x17_1).f1)] 38 (0, 0)) (kk_ BK243) hg (Kd.R_ne HO_16.out BK243.out (by decide)))
          have n2_ := Aside0.mk (hb)
          have n3_ := Aside0.mk (ho)
          clear HO_11
          clear BK243
          clear HB
          clear HO_16
          have HO_11 := n0_
          have BK243 := n1_
          have HB := n2_
          have HO247 := n3_
          clear n0_ n1_ n2_ n3_
          clear ho hb hg hat
          refine hK.out _ _ ⟨(blk_cell BK243.out 0).trans rfl, (blk_cell BK243.out 1).trans rfl, ((HB.out.cell (World.block_lt_of_cell? w _ hw244_0)).trans hw244_0)⟩ (fun hHeld => ?_)
          clear hK K
          refine norm_ (a' := ?_) ?_ ?_
          rotate_left
          ·show Act.put _ (some 78) _ = _
           simp only [Act.put, sI_, s0_, sS_, i64_w, i32_w]
           rfl
          refine pu_ 15 16 (w_ 16 65535) rfl HT_ ?_
          refine done_ (done_of HT_.out (by kernel_rfl)) ?_
          try go_wp2
          go_roundg k1
          case measure => have := HK1.out; omega
          case rel => exact ⟨(wrap64 (x14_1 + ((rd_T38 l3 x17_1).f0))), (wrap64 (x15_1 + (wrap64 (Int.tdiv (wrap64 (((rd_T38 t236 x17_1).f0) + ((rd_T38 t236 x17_1).f1))) 2)))), (y245), (wrap64 (x17_1 + 1)), sd_, sd_, sd_, H', ⟨by have := HK1.out; omega⟩, ⟨by (with_reducible repeat (first | apply Kd.R_alloc | apply Kd.R_drewN | apply Kd.R_drew)); exact Kd.R_mono HO_11.out (fun _ hk => trivial)⟩, ⟨by (with_reducible repeat (first | apply Kd.R_alloc | apply Kd.R_drewN | apply Kd.R_drew)); exact HO247.out⟩, ⟨by repeat (first | (with_reducible first | exact HB.out | apply below_alloc | apply pw_below_drewN | apply below_drew1 | refine below_set ?_ GE243.out) | exact HB.out)⟩⟩
         ·rw [if_neg c14] at H
          exact absurd H (by simp)
        ·rw [if_neg c13] at H
         exact absurd H (by simp)
       ·rw [if_neg c12] at H
        exact absurd H (by simp)
      ·rw [if_neg c11] at H
       exact absurd H (by simp)
     ·rw [if_neg c10] at H
      have c10b0 : decide (x17_1 < (l3.length : Int)) = false := decide_eq_false c10
      clear c10
      by_cases c21 : x14_1 > a1
      ·rw [if_pos c21] at H
       have c21b0 : decide (a1 < x14_1) = true := decide_eq_true c21
       clear c21
       simp only [Option.some.injEq, Prod.mk.injEq] at H
       obtain ⟨rfl, rfl, rfl⟩ := H
       go_wp2
       go_ret3
       exact ⟨_, ew_, by first | exact Kd.R_nil _ _ _ _ _ | exact Kd.N_nil _ _ _ _ _ | exact Kd.V_nil _ _ _ _ _ | exact Kd.Q_nil _ _ _ _ _ | exact Kd.S_nil _ _ _ _ _, by repeat (first | (with_reducible first | exact HB.out | apply below_alloc | apply pw_below_drewN | apply below_drew1) | exact HB.out)⟩
      ·rw [if_neg c21] at H
       have c21b0 : decide (a1 < x14_1) = false := decide_eq_false c21
       clear c21
       have H' := Aside0.mk H
       clear H
       obtain ⟨Ao22, co22, eo22⟩ := Kd.R_slice HO_16.out
       subst eo22
       go_wp2
       go_loopg [15, 20] k1 (fun kq v15 v20 w' => ∃ (x15_2 : Int) (x16_2 : List (S43)) (x20_2 : Int), v15 = .int .i64 x15_2 ∧ v20 = .int .i64 x20_2 ∧ Aside0 (cohousingref29_Share.l1 kq a0 x15_2 x16_2 x20_2 = some (r1, r2, r3)) ∧ Aside0 (kq ≤ k1) ∧ Aside0 (Kd.R k43 43 w' w.heap.size (fun _ => True) (.slice Ao22 x16_1.length co22) x16_2) ∧ Aside0 (Below w.heap.size w w'))
       case atStart => exact ⟨(x15_1), (x16_1), (wrap64 ((x16_1.length : Int) - 1)), sd_, sd_, H', ⟨Nat.le_refl _⟩, ⟨by (with_reducible repeat (first | apply Kd.R_alloc | apply Kd.R_drewN | apply Kd.R_drew)); exact HO_16.out⟩, ⟨by repeat (first | (with_reducible first | exact HB.out | apply below_alloc | apply pw_below_drewN | apply below_drew1) | exact HB.out)⟩⟩
       case round =>
        clear H'
        try clear c1
        try clear c2
        try clear p2
        try clear q2
        try clear hx2
        try clear c3
        try clear c5
        try clear c6
        try clear c6b0
        try clear c6b1
        try clear p6
        try clear c8
        try clear c10
        try clear c10b0
        try clear c11
        try clear c11b0
        try clear c12
        try clear c12b0
        try clear c13
        try clear c13b0
        try clear c14
        try clear c21
        try clear c21b0
        try clear hcz17_0
        try clear hcz17_1
        try clear hfz17_0
        try clear hfz17_1
        try clear hx241_0
        try clear hx241_1
        try clear hx242_0
        try clear hx242_1
        try clear hx244_0
        try clear p2
        try clear p241
        try clear p242
        try clear p244
        try clear q241
        try clear q242
        try clear q244
        obtain ⟨x15_2, x16_2, x20_2, rfl, rfl, HA, HK2, HO_16, HB⟩ := hrel
        have hl16_2 := (Kd.R_reads' HO_16.out).1
        rw [hl16_2] at HO_16
        (try simp only [hl16_2])
        cases gk with
        | zero => exact absurd HA.out (by simp [cohousingref29_Share.l1])
        | succ k2 =>
         have H := HA.out
         clear HA
         simp only [cohousingref29_Share.l1] at H
         by_cases c23 : x20_2 ≥ 0
         ·rw [if_pos c23] at H
          have c23b0 : decide (0 ≤ x20_2) = true := decide_eq_true c23
          clear c23
          by_cases c24 : 0 ≤ x20_2
          ·rw [if_pos c24] at H
           have c24b0 : decide (0 ≤ x20_2) = true := decide_eq_true c24
           clear c24
           by_cases c25 : x20_2 < (x16_2.length : Int)
           ·rw [if_pos c25] at H
            have c25b0 : decide (x20_2 < (x16_2.length : Int)) = true := decide_eq_true c25
            clear c25
            obtain ⟨ji26, hji26⟩ : ∃ j_ : Int, (mn (wrap64 (x15_2 - a0)) (wrap64 (((rd_T43 x16_2 x20_2).f1) - ((rd_T43 x16_2 x20_2).f2.f0)))) = j_ := ⟨_, rfl⟩
            replace H : (if (ji26) > 0 then (cohousingref29_Share.l1 k2 a0 (wrap64 (x15_2 - (ji26))) (x16_2.set (x20_2 : Int).toNat (⟨(rd_T43 x16_2 x20_2).f0, wrap64 (((rd_T43 x16_2 x20_2).f1) - (ji26)), (⟨(rd_T43 x16_2 x20_2).f2.f0, (rd_T43 x16_2 x20_2).f2.f1⟩ : S38), (rd_T43 x16_2 x20_2).f3⟩ : S43)) (wrap64 (x20_2 - 1))) else (cohousingref29_Share.l1 k2 a0 x15_2 x16_2 (wrap64 (x20_2 - 1)))) = some (r1, r2, r3) := by first | (rw [hji26] at H; exact H) | (simp only [hji26] at H ⊢; exact H)
            have hji26_ : (if (wrap64 (((rd_T43 x16_2 x20_2).f1) - ((rd_T43 x16_2 x20_2).f2.f0))) < (wrap64 (x15_2 - a0)) then (wrap64 (((rd_T43 x16_2 x20_2).f1) - ((rd_T43 x16_2 x20_2).f2.f0))) else (wrap64 (x15_2 - a0))) = ji26 := hji26
            by_cases c27 : (ji26) > 0
            ·rw [if_pos c27] at H
             have c27b0 : decide (0 < (ji26)) = true := decide_eq_true c27
             clear c27
             obtain ⟨y251, hy251⟩ : ∃ y_ : List (S43), y_ = (x16_2.set (x20_2 : Int).toNat (⟨(rd_T43 x16_2 x20_2).f0, wrap64 (((rd_T43 x16_2 x20_2).f1) - (ji26)), (⟨(rd_T43 x16_2 x20_2).f2.f0, (rd_T43 x16_2 x20_2).f2.f1⟩ : S38), (rd_T43 x16_2 x20_2).f3⟩ : S43)) := ⟨_, rfl⟩
             replace H : (cohousingref29_Share.l1 k2 a0 (wrap64 (x15_2 - (ji26))) y251 (wrap64 (x20_2 - 1))) = some (r1, r2, r3) := by first | (rw [hy251]; with_reducible exact H) | (have H2_ := (Option.bind_some _ _).symm.trans H; rw [hy251]; with_reducible exact H2_) | (have H2_ := (Option.bind_some _ _).symm.trans H; with_reducible exact H2_) | with_reducible exact H | (rw [hy251]; exact H) | exact H
             have Ny251 := Aside0.mk hy251
             clear hy251
             have H' := Aside0.mk H
             clear H
             try go_wp2
             have n0_ := Aside0.mk (Kd.R_drew HO_16.out)
             have n1_ := Aside0.mk (below_drew1 HB.out)
             clear HO_16
             clear HB
             have HO_16 := n0_
             have HB := n1_
             clear n0_ n1_
             have p248 : 0 ≤ (x20_2 : Int) := od_
             have q248 : x20_2 < (x16_2.length : Int) := od_
             obtain ⟨ad248, e248, hx248_0, hx248_1, hx248_2, hx248_3, hx248_4⟩ := at_T43 (Kd.R_reads' HO_16.out).2.2 x20_2 p248 q248
             cases e248
             replace p248 := eq_true p248
             replace q248 := eq_true q248
             have p249 : 0 ≤ (x20_2 : Int) := od_
             have q249 : x20_2 < (x16_2.length : Int) := od_
             obtain ⟨ad249, e249, hx249_0, hx249_1, hx249_2, hx249_3, hx249_4⟩ := at_T43 (Kd.R_reads' HO_16.out).2.2 x20_2 p249 q249
             obtain rfl : ad248 = ad249 := (by injection e249)
             replace p249 := eq_true p249
             replace q249 := eq_true q249
             refine start_ (n := 17) (S := fun w' => w'.cell? (ad248.add ((x20_2).toNat * 5)) = some (.int .i64 ((rd_T43 x16_2 x20_2).f0)) ∧ w'.cell? ⟨(ad248.add ((x20_2).toNat * 5)).block, (ad248.add ((x20_2).toNat * 5)).off + 1, none⟩ = some (.int .i64 ((rd_T43 x16_2 x20_2).f1)) ∧ w'.cell? ⟨(ad248.add ((x20_2).toNat * 5)).block, (ad248.add ((x20_2).toNat * 5)).off + 2, none⟩ = some (.int .i64 ((rd_T43 x16_2 x20_2).f2.f0)) ∧ w'.cell? ⟨(ad248.add ((x20_2).toNat * 5)).block, (ad248.add ((x20_2).toNat * 5)).off + 3, none⟩ = some (.int .i64 ((rd_T43 x16_2 x20_2).f2.f1)) ∧ w'.cell? ⟨(ad248.add ((x20_2).toNat * 5)).block, (ad248.add ((x20_2).toNat * 5)).off + 4, none⟩ = some (.bool ((rd_T43 x16_2 x20_2).f3)) ∧ w'.cell? (ad248.add ((x20_2).toNat * 5)) = some (.int .i64 ((rd_T43 x16_2 x20_2).f0)) ∧ w'.cell? ⟨(ad248.add ((x20_2).toNat * 5)).block, (ad248.add ((x20_2).toNat * 5)).off + 1, none⟩ = some (.int .i64 ((rd_T43 x16_2 x20_2).f1)) ∧ w'.cell? ⟨(ad248.add ((x20_2).toNat * 5)).block, (ad248.add ((x20_2).toNat * 5)).off + 2, none⟩ = some (.int .i64 ((rd_T43 x16_2 x20_2).f2.f0)) ∧ w'.cell? ⟨(ad248.add ((x20_2).toNat * 5)).block, (ad248.add ((x20_2).toNat * 5)).off + 3, none⟩ = some (.int .i64 ((rd_T43 x16_2 x20_2).f2.f1)) ∧ w'.cell? ⟨(ad248.add ((x20_2).toNat * 5)).block, (ad248.add ((x20_2).toNat * 5)).off + 4, none⟩ = some (.bool ((rd_T43 x16_2 x20_2).f3))) (ds := []) #[n_, n_, n_, n_, n_, n_, n_, n_, n_, n_, n_, n_, n_, n_, n_, n_, n_] (by kernel_rfl) rfl rfl ⟨hx248_0, hx248_1, hx248_2, hx248_3, hx248_4, hx249_0, hx249_1, hx249_2, hx249_3, hx249_4⟩ (fun hHeld => ?_); refine with_tabW cohousingref29_Share.tab23 cohousingref29_Share.bits23 (fun HT_ HW_ => ?_)
             generalize wr.drew = w29 at HO_16 HB hx248_0 hx248_1 hx248_2 hx248_3 hx248_4 hx249_0 hx249_1 hx249_2 hx249_3 hx249_4 hHeld ⊢
             refine pu_ 0 89 (w_ 17 1) rfl HT_ ?_
             refine pu_ 1 90 (w_ 17 3) rfl HT_ ?_
             refine pu_ 2 91 (w_ 17 7) rfl HT_ ?_
             refine pu_ 3 92 (w_ 17 15) rfl HT_ ?_
             refine pu_ 4 93 (w_ 17 31) rfl HT_ ?_
             refine pu_ 5 94 (w_ 17 63) rfl HT_ ?_
             refine pu_ 6 95 (w_ 17 127) rfl HT_ ?_
             refine pu_ 8 97 (w_ 17 383) rfl HT_ ?_
             refine pu_ 9 98 (w_ 17 895) rfl HT_ ?_
             refine pu_ 10 99 (w_ 17 1919) rfl HT_ ?_
             refine pu_ 11 100 (w_ 17 3967) rfl HT_ ?_
             refine pu_ 12 101 (w_ 17 8063) rfl HT_ ?_
             refine ta_ 7 96 (w_ 17 8191) rfl HT_ HW_ hHeld (by rintro w' ⟨s0, s1, s2, s3, s4, s5, s6, s7, s8, s9⟩; go_simp; with_reducible rfl) ?_
             refine ta_ 13 102 (w_ 17 16383) rfl HT_ HW_ hHeld (by rintro w' ⟨s0, s1, s2, s3, s4, s5, s6, s7, s8, s9⟩; go_simp; with_reducible rfl) ?_
             refine pu_ 14 103 (w_ 17 32767) rfl HT_ ?_
             refine pu_ 15 104 (w_ 17 65535) rfl HT_ ?_
             refine pu_ 16 21 (w_ 17 131071) rfl HT_ ?_
             refine done_ (done_of HT_.out (by kernel_rfl)) ?_
             have p250 : 0 ≤ (x20_2 : Int) := od_
             have q250 : x20_2 < (x16_2.length : Int) := od_
             obtain ⟨ad250, e250, hx250_0, hx250_1, hx250_2, hx250_3, hx250_4⟩ := at_T43 (Kd.R_reads' HO_16.out).2.2 x20_2 p250 q250
             obtain rfl : ad248 = ad250 := (by injection e250)
             replace p250 := eq_true p250
             replace q250 := eq_true q250
             have p28 : 0 ≤ (x20_2 : Int) := od_
             have q28 : (x20_2 : Int) < ((x16_2.length : Int) : Int) := od_
             obtain ⟨go28, co28, eo28, gb28, gl28, cl28, HG28⟩ := Kd.R_form HO_16.out (by omega)
             (first | cases eo28 | (injection eo28 with ea_ en_ ec_; (first | subst ea_ | (injection ea_ with ea_; subst ea_)); subst ec_; clear en_))
             have GB28 := Aside0.mk gb28
             have GG28 := Aside0.mk HG28
             clear gb28 gl28 HG28
             (first | simp only [add_plain] at hx248_0 | skip)
             (first | simp only [add_plain] at hx248_1 | skip)
             (first | simp only [add_plain] at hx248_2 | skip)
             (first | simp only [add_plain] at hx248_3 | skip)
             (first | simp only [add_plain] at hx248_4 | skip)
             (first | simp only [add_plain] at hx249_0 | skip)
             (first | simp only [add_plain] at hx249_1 | skip)
             (first | simp only [add_plain] at hx249_2 | skip)
             (first | simp only [add_plain] at hx249_3 | skip)
             (first | simp only [add_plain] at hx249_4 | skip)
             (first | simp only [add_plain] at hx250_0 | skip)
             (first | simp only [add_plain] at hx250_1 | skip)
             (first | simp only [add_plain] at hx250_2 | skip)
             (first | simp only [add_plain] at hx250_3 | skip)
             (first | simp only [add_plain] at hx250_4 | skip)
             obtain ⟨ce28, hcl28, hM28, hcc28, hfr28⟩ := Kd.R_elem HO_16.out z43 (x20_2 : Int) p28 q28
             obtain rfl := k43_openM hM28
             have hx28_0 : w29.cell? ⟨go28, (x20_2 : Int).toNat * 5, none⟩ = some (.int .i64 ((rd_T43 x16_2 x20_2).f0)) := hcc28 0 _ rfl
             have hx28_1 : w29.cell? ⟨go28, (x20_2 : Int).toNat * 5 + 1, none⟩ = some (.int .i64 ((rd_T43 x16_2 x20_2).f1)) := hcc28 1 _ rfl
             have hx28_2 : w29.cell? ⟨go28, (x20_2 : Int).toNat * 5 + 2, none⟩ = some (.int .i64 ((rd_T43 x16_2 x20_2).f2.f0)) := hcc28 2 _ rfl
             have hx28_3 : w29.cell? ⟨go28, (x20_2 : Int).toNat * 5 + 3, none⟩ = some (.int .i64 ((rd_T43 x16_2 x20_2).f2.f1)) := hcc28 3 _ rfl
             have hx28_4 : w29.cell? ⟨go28, (x20_2 : Int).toNat * 5 + 4, none⟩ = some (.bool ((rd_T43 x16_2 x20_2).f3)) := hcc28 4 _ rfl
             have hf28_0 : w29.frozen? ⟨go28, (x20_2 : Int).toNat * 5, none⟩ = false := hfr28 0
             have hf28_1 : w29.frozen? ⟨go28, (x20_2 : Int).toNat * 5 + 1, none⟩ = false := hfr28 1
             have hf28_2 : w29.frozen? ⟨go28, (x20_2 : Int).toNat * 5 + 2, none⟩ = false := hfr28 2
             have hf28_3 : w29.frozen? ⟨go28, (x20_2 : Int).toNat * 5 + 3, none⟩ = false := hfr28 3
             have hf28_4 : w29.frozen? ⟨go28, (x20_2 : Int).toNat * 5 + 4, none⟩ = false := hfr28 4
             clear hcl28 hcc28 hfr28 hM28
             replace p28 := eq_true p28
             replace q28 := eq_true q28
             have HX30 := Aside0.mk (show Kd.R k43 43 w29 w.heap.size (fun _ => True) (.slice (some ⟨go28, 0, none⟩) x16_2.length co22) x16_2 from (rr_ HO_16))
             obtain ⟨ce30, hcl30, hM30, hcc30, hfr30⟩ := Kd.R_elem HX30.out z43 (x20_2 : Int) (od_) (by have h_ : (x20_2 : Int) < ((x16_2.length : Int) : Int) := od_; first | exact h_ | (have e_ := (Kd.R_reads' HO_16.out).1; omega) | simpa using h_)
             obtain rfl := k43_openM hM30
             have HP30 := Kd.R_seg HX30.out (x20_2 : Int) (od_) (by have h_ : (x20_2 : Int) < ((x16_2.length : Int) : Int) := od_; first | exact h_ | (have e_ := (Kd.R_reads' HO_16.out).1; omega) | simpa using h_) (seg := [.int .i64 (wrap64 (((rd_T43 x16_2 x20_2).f1) - (ji26)))]) (j := 1) hcl30 hcc30 (show 2 ≤ 5 from by decide) (x' := (⟨(rd_T43 x16_2 x20_2).f0, wrap64 (((rd_T43 x16_2 x20_2).f1) - (ji26)), (⟨(rd_T43 x16_2 x20_2).f2.f0, (rd_T43 x16_2 x20_2).f2.f1⟩ : S38), (rd_T43 x16_2 x20_2).f3⟩ : S43)) (k43_mkM _ _ _ (⟨(rd_T43 x16_2 x20_2).f0, wrap64 (((rd_T43 x16_2 x20_2).f1) - (ji26)), (⟨(rd_T43 x16_2 x20_2).f2.f0, (rd_T43 x16_2 x20_2).f2.f1⟩ : S38), (rd_T43 x16_2 x20_2).f3⟩ : S43) ) (fun _ hk => hk)
             have hx30_1 := hcc30 1 _ rfl
             (try simp only [show (k43).sz = 5 from rfl, Nat.mul_one, Nat.add_zero] at hx30_1)
             have hf30_1 := hfr30 1
             (try simp only [show (k43).sz = 5 from rfl, Nat.mul_one, Nat.add_zero] at hf30_1)
             clear hcl30 hcc30 hfr30 hM30
             try go_wp2_with (first | ((with_reducible refine gate_store (t := 3) (p := 117) rfl ?_); refine store_event (t := 3) (p := 117) (v := ?vo_w31) (w1 := (w29.setCell ⟨go28, (x20_2 : Int).toNat * 5 + 1, none⟩ (.int .i64 (wrap64 (((rd_T43 x16_2 x20_2).f1) - (ji26)))))) ?hg ?ho ?hn ?hr ?_; (case ho => rfl); (case hg => rfl); (case hn => rfl); (case hr => first | (go_simp; done) | (go_simp; rfl)); intro w31 hw; have hg : w29.grownBy w31 (some go28) := (by rw [hw]; exact HP30.2); have hp_ : Kd.R k43 43 w31 w.heap.size (fun _ => True) (.slice (some ⟨go28, 0, none⟩) x16_2.length co22) y251 := (by rw [hw, Ny251.out]; exact HP30.1); clear HP30; have n0_ := Aside0.mk (hp_); have n1_ := Aside0.mk ((by rw [hw]; exact below_set (HB.out) GB28.out : Below w.heap.size w w31)); clear HO_16; clear HB; have HO_16 := n0_; have HB := n1_; clear n0_ n1_; clear hg hw hp_))
             (try simp only [← hl16_2])
             go_roundg k2
             case measure => have := HK1.out; have := HK2.out; omega
             case rel => exact ⟨(wrap64 (x15_2 - (ji26))), (y251), (wrap64 (x20_2 - 1)), (by first | rfl | (simp; done) | (simp only [← hji26] <;> (first | rfl | simp)) | (simp [*]; done)), sd_, H', ⟨by have := HK1.out; have := HK2.out; omega⟩, ⟨by (try simp only [hl16_2]); (with_reducible repeat (first | apply Kd.R_alloc | apply Kd.R_drewN | apply Kd.R_drew)); exact HO_16.out⟩, ⟨by repeat (first | (with_reducible first | exact HB.out | apply below_alloc | apply pw_below_drewN | apply below_drew1) | exact HB.out)⟩⟩
            ·rw [if_neg c27] at H
             have c27b0 : decide (0 < (ji26)) = false := decide_eq_false c27
             clear c27
             have H' := Aside0.mk H
             clear H
             try go_wp2
             have n0_ := Aside0.mk (Kd.R_drew HO_16.out)
             have n1_ := Aside0.mk (below_drew1 HB.out)
             clear HO_16
             clear HB
             have HO_16 := n0_
             have HB := n1_
             clear n0_ n1_
             have p248 : 0 ≤ (x20_2 : Int) := od_
             have q248 : x20_2 < (x16_2.length : Int) := od_
             obtain ⟨ad248, e248, hx248_0, hx248_1, hx248_2, hx248_3, hx248_4⟩ := at_T43 (Kd.R_reads' HO_16.out).2.2 x20_2 p248 q248
             cases e248
             replace p248 := eq_true p248
             replace q248 := eq_true q248
             have p249 : 0 ≤ (x20_2 : Int) := od_
             have q249 : x20_2 < (x16_2.length : Int) := od_
             obtain ⟨ad249, e249, hx249_0, hx249_1, hx249_2, hx249_3, hx249_4⟩ := at_T43 (Kd.R_reads' HO_16.out).2.2 x20_2 p249 q249
             obtain rfl : ad248 = ad249 := (by injection e249)
             replace p249 := eq_true p249
             replace q249 := eq_true q249
             refine start_ (n := 17) (S := fun w' => w'.cell? (ad248.add ((x20_2).toNat * 5)) = some (.int .i64 ((rd_T43 x16_2 x20_2).f0)) ∧ w'.cell? ⟨(ad248.add ((x20_2).toNat * 5)).block, (ad248.add ((x20_2).toNat * 5)).off + 1, none⟩ = some (.int .i64 ((rd_T43 x16_2 x20_2).f1)) ∧ w'.cell? ⟨(ad248.add ((x20_2).toNat * 5)).block, (ad248.add ((x20_2).toNat * 5)).off + 2, none⟩ = some (.int .i64 ((rd_T43 x16_2 x20_2).f2.f0)) ∧ w'.cell? ⟨(ad248.add ((x20_2).toNat * 5)).block, (ad248.add ((x20_2).toNat * 5)).off + 3, none⟩ = some (.int .i64 ((rd_T43 x16_2 x20_2).f2.f1)) ∧ w'.cell? ⟨(ad248.add ((x20_2).toNat * 5)).block, (ad248.add ((x20_2).toNat * 5)).off + 4, none⟩ = some (.bool ((rd_T43 x16_2 x20_2).f3)) ∧ w'.cell? (ad248.add ((x20_2).toNat * 5)) = some (.int .i64 ((rd_T43 x16_2 x20_2).f0)) ∧ w'.cell? ⟨(ad248.add ((x20_2).toNat * 5)).block, (ad248.add ((x20_2).toNat * 5)).off + 1, none⟩ = some (.int .i64 ((rd_T43 x16_2 x20_2).f1)) ∧ w'.cell? ⟨(ad248.add ((x20_2).toNat * 5)).block, (ad248.add ((x20_2).toNat * 5)).off + 2, none⟩ = some (.int .i64 ((rd_T43 x16_2 x20_2).f2.f0)) ∧ w'.cell? ⟨(ad248.add ((x20_2).toNat * 5)).block, (ad248.add ((x20_2).toNat * 5)).off + 3, none⟩ = some (.int .i64 ((rd_T43 x16_2 x20_2).f2.f1)) ∧ w'.cell? ⟨(ad248.add ((x20_2).toNat * 5)).block, (ad248.add ((x20_2).toNat * 5)).off + 4, none⟩ = some (.bool ((rd_T43 x16_2 x20_2).f3))) (ds := []) #[n_, n_, n_, n_, n_, n_, n_, n_, n_, n_, n_, n_, n_, n_, n_, n_, n_] (by kernel_rfl) rfl rfl ⟨hx248_0, hx248_1, hx248_2, hx248_3, hx248_4, hx249_0, hx249_1, hx249_2, hx249_3, hx249_4⟩ (fun hHeld => ?_); refine with_tabW cohousingref29_Share.tab23 cohousingref29_Share.bits23 (fun HT_ HW_ => ?_)
             generalize wr.drew = w32 at HO_16 HB hx248_0 hx248_1 hx248_2 hx248_3 hx248_4 hx249_0 hx249_1 hx249_2 hx249_3 hx249_4 hHeld ⊢
             refine pu_ 0 89 (w_ 17 1) rfl HT_ ?_
             refine pu_ 1 90 (w_ 17 3) rfl HT_ ?_
             refine pu_ 2 91 (w_ 17 7) rfl HT_ ?_
             refine pu_ 3 92 (w_ 17 15) rfl HT_ ?_
             refine pu_ 4 93 (w_ 17 31) rfl HT_ ?_
             refine pu_ 5 94 (w_ 17 63) rfl HT_ ?_
             refine pu_ 6 95 (w_ 17 127) rfl HT_ ?_
             refine pu_ 8 97 (w_ 17 383) rfl HT_ ?_
             refine pu_ 9 98 (w_ 17 895) rfl HT_ ?_
             refine pu_ 10 99 (w_ 17 1919) rfl HT_ ?_
             refine pu_ 11 100 (w_ 17 3967) rfl HT_ ?_
             refine pu_ 12 101 (w_ 17 8063) rfl HT_ ?_
             refine ta_ 7 96 (w_ 17 8191) rfl HT_ HW_ hHeld (by rintro w' ⟨s0, s1, s2, s3, s4, s5, s6, s7, s8, s9⟩; go_simp; with_reducible rfl) ?_
             refine ta_ 13 102 (w_ 17 16383) rfl HT_ HW_ hHeld (by rintro w' ⟨s0, s1, s2, s3, s4, s5, s6, s7, s8, s9⟩; go_simp; with_reducible rfl) ?_
             refine pu_ 14 103 (w_ 17 32767) rfl HT_ ?_
             refine pu_ 15 104 (w_ 17 65535) rfl HT_ ?_
             refine pu_ 16 21 (w_ 17 131071) rfl HT_ ?_
             refine done_ (done_of HT_.out (by kernel_rfl)) ?_
             try go_wp2
             (try simp only [← hl16_2])
             go_roundg k2
             case measure => have := HK1.out; have := HK2.out; omega
             case rel => exact ⟨(x15_2), (x16_2), (wrap64 (x20_2 - 1)), sd_, sd_, H', ⟨by have := HK1.out; have := HK2.out; omega⟩, ⟨by (try simp only [hl16_2]); (with_reducible repeat (first | apply Kd.R_alloc | apply Kd.R_drewN | apply Kd.R_drew)); exact HO_16.out⟩, ⟨by repeat (first | (with_reducible first | exact HB.out | apply below_alloc | apply pw_below_drewN | apply below_drew1) | exact HB.out)⟩⟩
           ·rw [if_neg c25] at H
            exact absurd H (by simp)
          ·rw [if_neg c24] at H
           exact absurd H (by simp)
         ·rw [if_neg c23] at H
          have c23b0 : decide (0 ≤ x20_2) = false := decide_eq_false c23
          clear c23
          simp only [Option.some.injEq, Prod.mk.injEq] at H
          obtain ⟨rfl, rfl, rfl⟩ := H
          go_wp2
          go_ret3
          exact ⟨_, ew_, by (with_reducible repeat (first | apply Kd.R_alloc | apply Kd.R_drewN | apply Kd.R_drew)); exact HO_16.out, by repeat (first | (with_reducible first | exact HB.out | apply below_alloc | apply pw_below_drewN | apply below_drew1) | exact HB.out)⟩
  ·replace c8 := Bool.eq_false_iff.mpr c8
   subst c8
   have H1 : (some (([] : List (S43)), 0, 1)) = some (r1, r2, r3) := by rw [if_neg (show ¬ (false = true) by decide)] at H; exact H
   clear H
   have H := H1
   clear H1
   simp only [Option.some.injEq, Prod.mk.injEq] at H
   obtain ⟨rfl, rfl, rfl⟩ := H
   go_enter Try.func26, Try.ntmps26
   go_wp2_with (first | ((with_reducible refine gate_callee (f := 23) rfl ?_); refine gl_ (some 26) Try.func23 #[.int .i64 a0, .int .i64 a1, .slice A3 l3.length c3] ?_; (with_reducible refine (cohousingref29_Bounds.calls k a0 a1 _ _ l3 t236 t237 _ ?side1 ?side2 A5.out).mono ?_); (case side1 => exact cc_ (HR3.out)); (case side2 => exact HC3.out); rintro e w33 ⟨v238, rfl, ho0, hb⟩; refine ⟨_, rfl, ?_⟩; have n0_ := Aside0.mk (Kd.R_lower ho0 (below_size (bb_ HB))); have n1_ := Aside0.mk (below_step (bb_ HB) hb); clear HB; have HO239 := n0_; have HB := n1_; clear n0_ n1_; (try clear hb); (try clear hb2); (try clear hk); (try clear hi); (try clear ho0)) | ((with_reducible refine gate_callee (f := 50) rfl ?_); refine gl_ (some 35) Try.func50 #[.slice A2 l2.length c2, .int .i64 (l3.length : Int)] ?_; (with_reducible refine (cohousingref29_Homes.calls k _ _ l2 (l3.length : Int) false _ ?side1 ?side2 A7.out).mono ?_); (case side1 => exact cc_ ((Kd.C_below HR2.out HB.out))); (case side2 => exact HC2.out); rintro e w' ⟨rfl, ⟨nd, rfl⟩⟩; refine ⟨_, rfl, ?_⟩))
   go_ret3
   exact ⟨_, ew_, by first | exact Kd.R_nil _ _ _ _ _ | exact Kd.N_nil _ _ _ _ _ | exact Kd.V_nil _ _ _ _ _ | exact Kd.Q_nil _ _ _ _ _ | exact Kd.S_nil _ _ _ _ _, by repeat (first | (with_reducible first | exact HB.out | apply below_alloc | apply pw_below_drewN | apply below_drew1) | exact HB.out)⟩
 ·rw [if_neg c6] at H
  have c6b0 : (t237 == 0) = false := beq_eq_false_iff_ne.mpr c6
  have c6b1 : (t237 != 0) = true := bne_iff_ne.mpr c6
  simp only [Option.some.injEq, Prod.mk.injEq] at H
  obtain ⟨rfl, rfl, rfl⟩ := H
  go_enter Try.func26, Try.ntmps26
  go_wp2_with (first | ((with_reducible refine gate_callee (f := 23) rfl ?_); refine gl_ (some 26) Try.func23 #[.int .i64 a0, .int .i64 a1, .slice A3 l3.length c3] ?_; (with_reducible refine (cohousingref29_Bounds.calls k a0 a1 _ _ l3 t236 t237 _ ?side1 ?side2 A5.out).mono ?_); (case side1 => exact cc_ (HR3.out)); (case side2 => exact HC3.out); rintro e w34 ⟨v238, rfl, ho0, hb⟩; refine ⟨_, rfl, ?_⟩; have n0_ := Aside0.mk (Kd.R_lower ho0 (below_size (bb_ HB))); have n1_ := Aside0.mk (below_step (bb_ HB) hb); clear HB; have HO239 := n0_; have HB := n1_; clear n0_ n1_; (try clear hb); (try clear hb2); (try clear hk); (try clear hi); (try clear ho0)))
  go_ret3
  exact ⟨_, ew_, by first | exact Kd.R_nil _ _ _ _ _ | exact Kd.N_nil _ _ _ _ _ | exact Kd.V_nil _ _ _ _ _ | exact Kd.Q_nil _ _ _ _ _ | exact Kd.S_nil _ _ _ _ _, by repeat (first | (with_reducible first | exact HB.out | apply below_alloc | apply pw_below_drewN | apply below_drew1) | exact HB.out)⟩
end
section
def cohousingref28_below.l0 : Nat → List (S63) → Int → List Int → Int → Option (List Int)
 | 0, _, _, _, _ => none
 | k + 1, x0, x1, x5, x6 => if x6 < (x0.length : Int) then (if 0 ≤ x6 then (if 0 ≤ x1 then (if x1 < (x0.length : Int) then (if ((rd_T63 x0 x6).f1) = ((rd_T63 x0 x1).f0) then (if x5.length < 17592186044416 then (cohousingref28_below.l0 k x0 x1 (x5 ++ [x6]) (wrap64 (x6 + 1))) else (none)) else (cohousingref28_below.l0 k x0 x1 x5 (wrap64 (x6 + 1)))) else (none)) else (none)) else (none)) else (some x5)
def cohousingref28_below.f (k : Nat) (l0 : List (S63)) (a1 : Int) : Option (List Int) := cohousingref28_below.l0 k l0 a1 ([] : List Int) (wrap64 (a1 + 1))
theorem cohousingref28_below.mono_l : ∀ k, (∀ y0 y1 y2 y3, LeO (cohousingref28_below.l0 k y0 y1 y2 y3) (cohousingref28_below.l0 (k + 1) y0 y1 y2 y3))
 | 0 => fun _ _ _ _ r h => by simp [cohousingref28_below.l0] at h
 | k + 1 => by
  have ih0 := cohousingref28_below.mono_l k
  ·intro y0 y1 y2 y3
   unfold cohousingref28_below.l0
   repeat' first
   | (with_reducible exact ih0 _ _ _ _)
   | (with_reducible exact LeO.refl _)
   | (with_reducible exact LeO.none _)
   | (with_reducible refine LeO.ite ?_ ?_)
   | (with_reducible refine LeO.bind ?_ (fun _ => ?_))
   | exact ih0 _ _ _ _
   | exact LeO.none _
   | refine LeO.ite ?_ ?_
   | refine LeO.bind ?_ (fun _ => ?_)
theorem cohousingref28_below.mono : ∀ a0 a1 k, LeO (cohousingref28_below.f k a0 a1) (cohousingref28_below.f (k + 1) a0 a1) := by
 intro a0 a1 k
 have ih0 := cohousingref28_below.mono_l k
 unfold cohousingref28_below.f
 repeat' first
   | (with_reducible exact ih0 _ _ _ _)
   | (with_reducible exact LeO.refl _)
   | (with_reducible exact LeO.none _)
   | (with_reducible refine LeO.ite ?_ ?_)
   | (with_reducible refine LeO.bind ?_ (fun _ => ?_))
   | exact ih0 _ _ _ _
   | exact LeO.none _
   | refine LeO.ite ?_ ?_
   | refine LeO.bind ?_ (fun _ => ?_)
theorem cohousingref28_below.calls (k : Nat) (A0 : Option Addr) (c0 : Nat) (l0 : List (S63)) (a1 : Int) (r : List Int) (w : World) (hr0 : Kd.C k63 w A0 l0.length l0) (hc0 : l0.length ≤ c0) (h : cohousingref28_below.f k l0 a1 = some r) :
  Calls Try.prog 63 #[.slice A0 l0.length c0, .int .i64 a1] w fun e w' => ∃ v0_ : Value, e = .returned (v0_) ∧ Kd.R (Kd.int .i64) 3 w' w.heap.size (fun _ => True) v0_ r ∧ Below w.heap.size w w' := by
 have HR0 := Aside0.mk hr0
 have HC0 := Aside0.mk hc0
 clear hr0 hc0
 have HB := Aside0.mk (Below.refl w.heap.size w)
 have H : (cohousingref28_below.l0 k l0 a1 ([] : List Int) (wrap64 (a1 + 1))) = some r := h
 clear h
 have H' := Aside0.mk H
 clear H
 go_enter Try.func63, Try.ntmps63
 go_wp2
 repeat (go_quiet (fail); try go_wp2)
 go_loopg [5, 6] k (fun kq v5 v6 w' => ∃ (x5_1 : List Int) (x6_1 : Int), v6 = .int .i64 x6_1 ∧ Aside0 (cohousingref28_below.l0 kq l0 a1 x5_1 x6_1 = some r) ∧ Aside0 (kq ≤ k) ∧ Aside0 (Kd.R (Kd.int .i64) 3 w' w.heap.size (fun _ => True) v5 x5_1) ∧ Aside0 (Below w.heap.size w w'))
 case atStart => exact ⟨(([] : List Int)), (wrap64 (a1 + 1)), sd_, H', ⟨Nat.le_refl _⟩, ⟨by first | exact Kd.R_nil _ _ _ _ _ | exact Kd.N_nil _ _ _ _ _ | exact Kd.V_nil _ _ _ _ _ | exact Kd.Q_nil _ _ _ _ _ | exact Kd.S_nil _ _ _ _ _⟩, ⟨by repeat (first | (with_reducible first | exact HB.out | apply below_alloc | apply pw_below_drewN | apply below_drew1) | exact HB.out)⟩⟩
 case round =>
  clear H'
  try clear p2
  obtain ⟨x5_1, x6_1, rfl, HA, HK1, HO_5, HB⟩ := hrel
  cases gk with
  | zero => exact absurd HA.out (by simp [cohousingref28_below.l0])
  | succ k1 =>
   have H := HA.out
   clear HA
   simp only [cohousingref28_below.l0] at H
   by_cases c3 : x6_1 < (l0.length : Int)
   ·rw [if_pos c3] at H
    have c3b0 : decide (x6_1 < (l0.length : Int)) = true := decide_eq_true c3
    clear c3
    by_cases c4 : 0 ≤ x6_1
    ·rw [if_pos c4] at H
     have c4b0 : decide (0 ≤ x6_1) = true := decide_eq_true c4
     clear c4
     by_cases c5 : 0 ≤ a1
     ·rw [if_pos c5] at H
      have c5b0 : decide (0 ≤ a1) = true := decide_eq_true c5
      clear c5
      by_cases c6 : a1 < (l0.length : Int)
      ·rw [if_pos c6] at H
       have c6b0 : decide (a1 < (l0.length : Int)) = true := decide_eq_true c6
       clear c6
       by_cases c7 : ((rd_T63 l0 x6_1).f1) = ((rd_T63 l0 a1).f0)
       ·rw [if_pos c7] at H
        have c7b0 : (((rd_T63 l0 x6_1).f1) == ((rd_T63 l0 a1).f0)) = true := beq_iff_eq.mpr c7
        have c7b1 : (((rd_T63 l0 x6_1).f1) != ((rd_T63 l0 a1).f0)) = false := bne_eq_false_iff_eq.mpr c7
        clear c7
        by_cases c8 : x5_1.length < 17592186044416
        ·rw [if_pos c8] at H
         have LMc8 := Aside0.mk c8
         clear c8
         obtain ⟨y254, hy254⟩ : ∃ y_ : List Int, y_ = (x5_1 ++ [x6_1]) := ⟨_, rfl⟩
         replace H : (cohousingref28_below.l0 k1 l0 a1 y254 (wrap64 (x6_1 + 1))) = some r := by first | (rw [hy254]; with_reducible exact H) | (have H2_ := (Option.bind_some _ _).symm.trans H; rw [hy254]; with_reducible exact H2_) | (have H2_ := (Option.bind_some _ _).symm.trans H; with_reducible exact H2_) | with_reducible exact H | (rw [hy254]; exact H) | exact H
         have Ny254 := Aside0.mk hy254
         clear hy254
         have H' := Aside0.mk H
         clear H
         have p252 : 0 ≤ (x6_1 : Int) := od_
         have q252 : x6_1 < (l0.length : Int) := od_
         obtain ⟨ad252, e252, hx252_0, hx252_1, hx252_2⟩ := at_T63 HR0.out x6_1 p252 q252
         cases e252
         replace hx252_0 := (HB.out.cell (World.block_lt_of_cell? w _ hx252_0)).trans hx252_0
         replace hx252_1 := (HB.out.cell (World.block_lt_of_cell? w _ hx252_1)).trans hx252_1
         replace hx252_2 := (HB.out.cell (World.block_lt_of_cell? w _ hx252_2)).trans hx252_2
         replace p252 := eq_true p252
         replace q252 := eq_true q252
         have p253 : 0 ≤ (a1 : Int) := od_
         have q253 : a1 < (l0.length : Int) := od_
         obtain ⟨ad253, e253, hx253_0, hx253_1, hx253_2⟩ := at_T63 HR0.out a1 p253 q253
         obtain rfl : ad252 = ad253 := (by injection e253)
         replace hx253_0 := (HB.out.cell (World.block_lt_of_cell? w _ hx253_0)).trans hx253_0
         replace hx253_1 := (HB.out.cell (World.block_lt_of_cell? w _ hx253_1)).trans hx253_1
         replace hx253_2 := (HB.out.cell (World.block_lt_of_cell? w _ hx253_2)).trans hx253_2
         replace p253 := eq_true p253
         replace q253 := eq_true q253
         go_wp2_with (first | ((with_reducible refine gate_builtin (b := .append) (xs := #[.tmp 26, .tmp 28]) rfl ?_); at_builtin; refine Kd.R_append (Kd.int .i64) (w0 := w) w.heap.size rfl (.tmp 26) (.tmp 28) 24 3 (.int .i64 0) 8 rfl Try.underlying24 info3 rfl (by decide) (by omega) u5 x5_1 x6_1 [.int .i64 x6_1] (fun _ => True) (fun _ => False) rfl rfl ?aP (fun _ hk => hk.elim) ?aF ?aO ?aB ?aS ?aL ?_; (case aP => exact rfl); (case aB => exact (bb_ HB)); (case aF => exact (fun _ _ => trivial)); (case aO => exact (rr_ HO_5)); (case aS => exact (below_size (bb_ HB))); (case aL => have := LMc8.out; omega); intro v255 w9 ho hb hg hat; rw [← Ny254.out] at ho; have n0_ := Aside0.mk (hb); have n1_ := Aside0.mk (ho); clear HB; clear HO_5; have HB := n0_; have HO256 := n1_; clear n0_ n1_; clear ho hb hg hat))
         repeat (go_quiet (first | ((with_reducible refine gate_builtin (b := .append) (xs := #[.tmp 26, .tmp 28]) rfl ?_); at_builtin; refine Kd.R_append (Kd.int .i64) (w0 := w) w.heap.size rfl (.tmp 26) (.tmp 28) 24 3 (.int .i64 0) 8 rfl Try.underlying24 info3 rfl (by decide) (by omega) u5 x5_1 x6_1 [.int .i64 x6_1] (fun _ => True) (fun _ => False) rfl rfl ?aP (fun _ hk => hk.elim) ?aF ?aO ?aB ?aS ?aL ?_; (case aP => exact rfl); (case aB => exact (bb_ HB)); (case aF => exact (fun _ _ => trivial)); (case aO => exact (rr_ HO_5)); (case aS => exact (below_size (bb_ HB))); (case aL => have := LMc8.out; omega); intro v255 w9 ho hb hg hat; rw [← Ny254.out] at ho; have n0_ := Aside0.mk (hb); have n1_ := Aside0.mk (ho); clear HB; clear HO_5; have HB := n0_; have HO256 := n1_; clear n0_ n1_; clear ho hb hg hat)); try go_wp2_with (first | ((with_reducible refine gate_builtin (b := .append) (xs := #[.tmp 26, .tmp 28]) rfl ?_); at_builtin; refine Kd.R_append (Kd.int .i64) (w0 := w) w.heap.size rfl (.tmp 26) (.tmp 28) 24 3 (.int .i64 0) 8 rfl Try.underlying24 info3 rfl (by decide) (by omega) u5 x5_1 x6_1 [.int .i64 x6_1] (fun _ => True) (fun _ => False) rfl rfl ?aP (fun _ hk => hk.elim) ?aF ?aO ?aB ?aS ?aL ?_; (case aP => exact rfl); (case aB => exact (bb_ HB)); (case aF => exact (fun _ _ => trivial)); (case aO => exact (rr_ HO_5)); (case aS => exact (below_size (bb_ HB))); (case aL => have := LMc8.out; omega); intro v255 w9 ho hb hg hat; rw [← Ny254.out] at ho; have n0_ := Aside0.mk (hb); have n1_ := Aside0.mk (ho); clear HB; clear HO_5; have HB := n0_; have HO256 := n1_; clear n0_ n1_; clear ho hb hg hat)))
         go_roundg k1
         case measure => have := HK1.out; omega
         case rel => exact ⟨(y254), (wrap64 (x6_1 + 1)), sd_, H', ⟨by have := HK1.out; omega⟩, ⟨by (with_reducible repeat (first | apply Kd.R_alloc | apply Kd.R_drewN | apply Kd.R_drew)); exact HO256.out⟩, ⟨by repeat (first | (with_reducible first | exact HB.out | apply below_alloc | apply pw_below_drewN | apply below_drew1) | exact HB.out)⟩⟩
        ·rw [if_neg c8] at H
         exact absurd H (by simp)
       ·rw [if_neg c7] at H
        have c7b0 : (((rd_T63 l0 x6_1).f1) == ((rd_T63 l0 a1).f0)) = false := beq_eq_false_iff_ne.mpr c7
        have c7b1 : (((rd_T63 l0 x6_1).f1) != ((rd_T63 l0 a1).f0)) = true := bne_iff_ne.mpr c7
        have H' := Aside0.mk H
        clear H
        have p252 : 0 ≤ (x6_1 : Int) := od_
        have q252 : x6_1 < (l0.length : Int) := od_
        obtain ⟨ad252, e252, hx252_0, hx252_1, hx252_2⟩ := at_T63 HR0.out x6_1 p252 q252
        cases e252
        replace hx252_0 := (HB.out.cell (World.block_lt_of_cell? w _ hx252_0)).trans hx252_0
        replace hx252_1 := (HB.out.cell (World.block_lt_of_cell? w _ hx252_1)).trans hx252_1
        replace hx252_2 := (HB.out.cell (World.block_lt_of_cell? w _ hx252_2)).trans hx252_2
        replace p252 := eq_true p252
        replace q252 := eq_true q252
        have p253 : 0 ≤ (a1 : Int) := od_
        have q253 : a1 < (l0.length : Int) := od_
        obtain ⟨ad253, e253, hx253_0, hx253_1, hx253_2⟩ := at_T63 HR0.out a1 p253 q253
        obtain rfl : ad252 = ad253 := (by injection e253)
        replace hx253_0 := (HB.out.cell (World.block_lt_of_cell? w _ hx253_0)).trans hx253_0
        replace hx253_1 := (HB.out.cell (World.block_lt_of_cell? w _ hx253_1)).trans hx253_1
        replace hx253_2 := (HB.out.cell (World.block_lt_of_cell? w _ hx253_2)).trans hx253_2
        replace p253 := eq_true p253
        replace q253 := eq_true q253
        go_wp2
        repeat (go_quiet (fail); try go_wp2)
        go_roundg k1
        case measure => have := HK1.out; omega
        case rel => exact ⟨(x5_1), (wrap64 (x6_1 + 1)), sd_, H', ⟨by have := HK1.out; omega⟩, ⟨by (with_reducible repeat (first | apply Kd.R_alloc | apply Kd.R_drewN | apply Kd.R_drew)); exact HO_5.out⟩, ⟨by repeat (first | (with_reducible first | exact HB.out | apply below_alloc | apply pw_below_drewN | apply below_drew1) | exact HB.out)⟩⟩
      ·rw [if_neg c6] at H
       exact absurd H (by simp)
     ·rw [if_neg c5] at H
      exact absurd H (by simp)
    ·rw [if_neg c4] at H
     exact absurd H (by simp)
   ·rw [if_neg c3] at H
    have c3b0 : decide (x6_1 < (l0.length : Int)) = false := decide_eq_false c3
    clear c3
    obtain rfl := Option.some.inj H
    go_wp2
    repeat (go_quiet (fail); try go_wp2)
    go_ret
    exact ⟨_, ew_, by (with_reducible repeat (first | apply Kd.R_alloc | apply Kd.R_drewN | apply Kd.R_drew)); exact HO_5.out, by repeat (first | (with_reducible first | exact HB.out | apply below_alloc | apply pw_below_drewN | apply below_drew1) | exact HB.out)⟩
end
section
def cohousingref28_Leaf.f (k : Nat) (l0 : List (S63)) (a1 : Int) : Option (Bool) := (cohousingref28_below.f k l0 a1).bind fun t257 => (some ((t257.length : Int) == 0))
theorem cohousingref28_Leaf.mono : ∀ a0 a1 k, LeO (cohousingref28_Leaf.f k a0 a1) (cohousingref28_Leaf.f (k + 1) a0 a1) := by
 intro a0 a1 k
 unfold cohousingref28_Leaf.f
 repeat' first
   | (with_reducible exact cohousingref28_below.mono _ _ _)
   | (with_reducible exact LeO.refl _)
   | (with_reducible exact LeO.none _)
   | (with_reducible refine LeO.ite ?_ ?_)
   | (with_reducible refine LeO.bind ?_ (fun _ => ?_))
   | exact cohousingref28_below.mono _ _ _
   | exact LeO.none _
   | refine LeO.ite ?_ ?_
   | refine LeO.bind ?_ (fun _ => ?_)
theorem cohousingref28_Leaf.calls (k : Nat) (A0 : Option Addr) (c0 : Nat) (l0 : List (S63)) (a1 : Int) (r : Bool) (w : World) (hr0 : Kd.C k63 w A0 l0.length l0) (hc0 : l0.length ≤ c0) (h : cohousingref28_Leaf.f k l0 a1 = some r) :
  Calls Try.prog 40 #[.slice A0 l0.length c0, .int .i64 a1] w fun e w' => e = .returned (.bool r) ∧ Below w.heap.size w w' := by
 have HR0 := Aside0.mk hr0
 have HC0 := Aside0.mk hc0
 clear hr0 hc0
 have HB := Aside0.mk (Below.refl w.heap.size w)
 have H : ((cohousingref28_below.f k l0 a1).bind fun t257 => (some ((t257.length : Int) == 0))) = some r := h
 clear h
 replace H := Option.bind_eq_some_iff.mp H
 obtain ⟨t257, A30, H⟩ := H
 replace H : (some ((t257.length : Int) == 0)) = some r := H
 have A3 := Aside0.mk A30
 clear A30
 obtain rfl := Option.some.inj H
 go_enter Try.func40, Try.ntmps40
 go_wp2_with (first | ((with_reducible refine gate_callee (f := 63) rfl ?_); refine gl_ (some 7) Try.func63 #[.slice A0 l0.length c0, .int .i64 a1] ?_; (with_reducible refine (cohousingref28_below.calls k _ _ l0 a1 t257 _ ?side1 ?side2 A3.out).mono ?_); (case side1 => exact cc_ (HR0.out)); (case side2 => exact HC0.out); rintro e w4 ⟨v258, rfl, ho0, hb⟩; refine ⟨_, rfl, ?_⟩; have n0_ := Aside0.mk (Kd.R_lower ho0 (below_size (bb_ HB))); have n1_ := Aside0.mk (below_step (bb_ HB) hb); clear HB; have HO259 := n0_; have HB := n1_; clear n0_ n1_; (try clear hb); (try clear hb2); (try clear hk); (try clear hi); (try clear ho0); obtain ⟨Ao5, co5, eo5⟩ := Kd.R_slice HO259.out; subst eo5))
 go_ret
 exact ⟨ew_, by repeat (first | (with_reducible first | exact HB.out | apply below_alloc | apply pw_below_drewN | apply below_drew1) | exact HB.out)⟩
end
section
def cohousingref29_Leaves.l0 : Nat → List (S63) → List Int → Int → Option (List Int)
 | 0, _, _, _ => none
 | k + 1, x0, x3, x4 => if x4 < (x0.length : Int) then ((cohousingref28_Leaf.f k x0 x4).bind fun t260 => (if t260 = true then (if x3.length < 17592186044416 then (cohousingref29_Leaves.l0 k x0 (x3 ++ [x4]) (wrap64 (x4 + 1))) else (none)) else (cohousingref29_Leaves.l0 k x0 x3 (wrap64 (x4 + 1))))) else (some x3)
def cohousingref29_Leaves.f (k : Nat) (l0 : List (S63)) : Option (List Int) := cohousingref29_Leaves.l0 k l0 ([] : List Int) 0
theorem cohousingref29_Leaves.mono_l : ∀ k, (∀ y0 y1 y2, LeO (cohousingref29_Leaves.l0 k y0 y1 y2) (cohousingref29_Leaves.l0 (k + 1) y0 y1 y2))
 | 0 => fun _ _ _ r h => by simp [cohousingref29_Leaves.l0] at h
 | k + 1 => by
  have ih0 := cohousingref29_Leaves.mono_l k
  ·intro y0 y1 y2
   unfold cohousingref29_Leaves.l0
   repeat' first
   | (with_reducible exact ih0 _ _ _)
   | (with_reducible exact cohousingref28_Leaf.mono _ _ _)
   | (with_reducible exact LeO.refl _)
   | (with_reducible exact LeO.none _)
   | (with_reducible refine LeO.ite ?_ ?_)
   | (with_reducible refine LeO.bind ?_ (fun _ => ?_))
   | exact ih0 _ _ _
   | exact cohousingref28_Leaf.mono _ _ _
   | exact LeO.none _
   | refine LeO.ite ?_ ?_
   | refine LeO.bind ?_ (fun _ => ?_)
theorem cohousingref29_Leaves.mono : ∀ a0 k, LeO (cohousingref29_Leaves.f k a0) (cohousingref29_Leaves.f (k + 1) a0) := by
 intro a0 k
 have ih0 := cohousingref29_Leaves.mono_l k
 unfold cohousingref29_Leaves.f
 repeat' first
   | (with_reducible exact ih0 _ _ _)
   | (with_reducible exact cohousingref28_Leaf.mono _ _ _)
   | (with_reducible exact LeO.refl _)
   | (with_reducible exact LeO.none _)
   | (with_reducible refine LeO.ite ?_ ?_)
   | (with_reducible refine LeO.bind ?_ (fun _ => ?_))
   | exact ih0 _ _ _
   | exact cohousingref28_Leaf.mono _ _ _
   | exact LeO.none _
   | refine LeO.ite ?_ ?_
   | refine LeO.bind ?_ (fun _ => ?_)
theorem cohousingref29_Leaves.calls (k : Nat) (A0 : Option Addr) (c0 : Nat) (l0 : List (S63)) (r : List Int) (w : World) (hr0 : Kd.C k63 w A0 l0.length l0) (hc0 : l0.length ≤ c0) (h : cohousingref29_Leaves.f k l0 = some r) :
  Calls Try.prog 17 #[.slice A0 l0.length c0] w fun e w' => ∃ v0_ : Value, e = .returned (v0_) ∧ Kd.R (Kd.int .i64) 3 w' w.heap.size (fun _ => True) v0_ r ∧ Below w.heap.size w w' := by
 have HR0 := Aside0.mk hr0
 have HC0 := Aside0.mk hc0
 clear hr0 hc0
 have HB := Aside0.mk (Below.refl w.heap.size w)
 have H : (cohousingref29_Leaves.l0 k l0 ([] : List Int) 0) = some r := h
 clear h
 have H' := Aside0.mk H
 clear H
 go_enter Try.func17, Try.ntmps17
 go_wp2
 go_loopg [3, 4] k (fun kq v3 v4 w' => ∃ (x3_1 : List Int) (x4_1 : Int), v4 = .int .i64 x4_1 ∧ Aside0 (cohousingref29_Leaves.l0 kq l0 x3_1 x4_1 = some r) ∧ Aside0 (kq ≤ k) ∧ Aside0 (Kd.R (Kd.int .i64) 3 w' w.heap.size (fun _ => True) v3 x3_1) ∧ Aside0 (Below w.heap.size w w'))
 case atStart => exact ⟨(([] : List Int)), (0), sd_, H', ⟨Nat.le_refl _⟩, ⟨by first | exact Kd.R_nil _ _ _ _ _ | exact Kd.N_nil _ _ _ _ _ | exact Kd.V_nil _ _ _ _ _ | exact Kd.Q_nil _ _ _ _ _ | exact Kd.S_nil _ _ _ _ _⟩, ⟨by repeat (first | (with_reducible first | exact HB.out | apply below_alloc | apply pw_below_drewN | apply below_drew1) | exact HB.out)⟩⟩
 case round =>
  clear H'
  try clear c1
  obtain ⟨x3_1, x4_1, rfl, HA, HK1, HO_3, HB⟩ := hrel
  cases gk with
  | zero => exact absurd HA.out (by simp [cohousingref29_Leaves.l0])
  | succ k1 =>
   have H := HA.out
   clear HA
   simp only [cohousingref29_Leaves.l0] at H
   by_cases c2 : x4_1 < (l0.length : Int)
   ·rw [if_pos c2] at H
    have c2b0 : decide (x4_1 < (l0.length : Int)) = true := decide_eq_true c2
    clear c2
    replace H := Option.bind_eq_some_iff.mp H
    obtain ⟨t260, A30, H⟩ := H
    replace H : (if t260 = true then (if x3_1.length < 17592186044416 then (cohousingref29_Leaves.l0 k1 l0 (x3_1 ++ [x4_1]) (wrap64 (x4_1 + 1))) else (none)) else (cohousingref29_Leaves.l0 k1 l0 x3_1 (wrap64 (x4_1 + 1)))) = some r := H
    have A3 := Aside0.mk A30
    clear A30
    by_cases c4 : t260 = true
    ·subst c4
     have H1 : (if x3_1.length < 17592186044416 then (cohousingref29_Leaves.l0 k1 l0 (x3_1 ++ [x4_1]) (wrap64 (x4_1 + 1))) else (none)) = some r := by rw [if_pos rfl] at H; exact H
     clear H
     have H := H1
     clear H1
     by_cases c5 : x3_1.length < 17592186044416
     ·rw [if_pos c5] at H
      have LMc5 := Aside0.mk c5
      clear c5
      obtain ⟨y261, hy261⟩ : ∃ y_ : List Int, y_ = (x3_1 ++ [x4_1]) := ⟨_, rfl⟩
      replace H : (cohousingref29_Leaves.l0 k1 l0 y261 (wrap64 (x4_1 + 1))) = some r := by first | (rw [hy261]; with_reducible exact H) | (have H2_ := (Option.bind_some _ _).symm.trans H; rw [hy261]; with_reducible exact H2_) | (have H2_ := (Option.bind_some _ _).symm.trans H; with_reducible exact H2_) | with_reducible exact H | (rw [hy261]; exact H) | exact H
      have Ny261 := Aside0.mk hy261
      clear hy261
      have H' := Aside0.mk H
      clear H
      go_wp2_with (first | ((with_reducible refine gate_callee (f := 40) rfl ?_); refine gl_ (some 14) Try.func40 #[.slice A0 l0.length c0, .int .i64 x4_1] ?_; (with_reducible refine (cohousingref28_Leaf.calls k1 _ _ l0 x4_1 true _ ?side1 ?side2 A3.out).mono ?_); (case side1 => exact cc_ ((Kd.C_below HR0.out HB.out))); (case side2 => exact HC0.out); rintro e w6 ⟨rfl, hb⟩; refine ⟨_, rfl, ?_⟩; have n0_ := Aside0.mk (Kd.R_below (rr_ HO_3) hb); have n1_ := Aside0.mk (below_step (bb_ HB) hb); clear HO_3; clear HB; have HO_3 := n0_; have HB := n1_; clear n0_ n1_; (try clear hb); (try clear hb2); (try clear hk); (try clear hi)) | ((with_reducible refine gate_builtin (b := .append) (xs := #[.tmp 16, .tmp 18]) rfl ?_); at_builtin; refine Kd.R_append (Kd.int .i64) (w0 := w) w.heap.size rfl (.tmp 16) (.tmp 18) 24 3 (.int .i64 0) 8 rfl Try.underlying24 info3 rfl (by decide) (by omega) u3 x3_1 x4_1 [.int .i64 x4_1] (fun _ => True) (fun _ => False) rfl rfl ?aP (fun _ hk => hk.elim) ?aF ?aO ?aB ?aS ?aL ?_; (case aP => exact rfl); (case aB => exact (bb_ HB)); (case aF => exact (fun _ _ => trivial)); (case aO => exact (rr_ HO_3)); (case aS => exact (below_size (bb_ HB))); (case aL => have := LMc5.out; omega); intro v262 w7 ho hb hg hat; rw [← Ny261.out] at ho; have n0_ := Aside0.mk (hb); have n1_ := Aside0.mk (ho); clear HB; clear HO_3; have HB := n0_; have HO263 := n1_; clear n0_ n1_; clear ho hb hg hat))
      go_roundg k1
      case measure => have := HK1.out; omega
      case rel => exact ⟨(y261), (wrap64 (x4_1 + 1)), sd_, H', ⟨by have := HK1.out; omega⟩, ⟨by (with_reducible repeat (first | apply Kd.R_alloc | apply Kd.R_drewN | apply Kd.R_drew)); exact HO263.out⟩, ⟨by repeat (first | (with_reducible first | exact HB.out | apply below_alloc | apply pw_below_drewN | apply below_drew1) | exact HB.out)⟩⟩
     ·rw [if_neg c5] at H
      exact absurd H (by simp)
    ·replace c4 := Bool.eq_false_iff.mpr c4
     subst c4
     have H1 : (cohousingref29_Leaves.l0 k1 l0 x3_1 (wrap64 (x4_1 + 1))) = some r := by rw [if_neg (show ¬ (false = true) by decide)] at H; exact H
     clear H
     have H := H1
     clear H1
     have H' := Aside0.mk H
     clear H
     go_wp2_with (first | ((with_reducible refine gate_callee (f := 40) rfl ?_); refine gl_ (some 14) Try.func40 #[.slice A0 l0.length c0, .int .i64 x4_1] ?_; (with_reducible refine (cohousingref28_Leaf.calls k1 _ _ l0 x4_1 false _ ?side1 ?side2 A3.out).mono ?_); (case side1 => exact cc_ ((Kd.C_below HR0.out HB.out))); (case side2 => exact HC0.out); rintro e w8 ⟨rfl, hb⟩; refine ⟨_, rfl, ?_⟩; have n0_ := Aside0.mk (Kd.R_below (rr_ HO_3) hb); have n1_ := Aside0.mk (below_step (bb_ HB) hb); clear HO_3; clear HB; have HO_3 := n0_; have HB := n1_; clear n0_ n1_; (try clear hb); (try clear hb2); (try clear hk); (try clear hi)))
     go_roundg k1
     case measure => have := HK1.out; omega
     case rel => exact ⟨(x3_1), (wrap64 (x4_1 + 1)), sd_, H', ⟨by have := HK1.out; omega⟩, ⟨by (with_reducible repeat (first | apply Kd.R_alloc | apply Kd.R_drewN | apply Kd.R_drew)); exact HO_3.out⟩, ⟨by repeat (first | (with_reducible first | exact HB.out | apply below_alloc | apply pw_below_drewN | apply below_drew1) | exact HB.out)⟩⟩
   ·rw [if_neg c2] at H
    have c2b0 : decide (x4_1 < (l0.length : Int)) = false := decide_eq_false c2
    clear c2
    obtain rfl := Option.some.inj H
    go_wp2
    go_ret
    exact ⟨_, ew_, by (with_reducible repeat (first | apply Kd.R_alloc | apply Kd.R_drewN | apply Kd.R_drew)); exact HO_3.out, by repeat (first | (with_reducible first | exact HB.out | apply below_alloc | apply pw_below_drewN | apply below_drew1) | exact HB.out)⟩
end
section
def cohousingref29_Root.l0 : Nat → List (S63) → Int → Int → Option (Int)
 | 0, _, _, _ => none
 | k + 1, x0, x3, x4 => if x4 < (x0.length : Int) then (if 0 ≤ x4 then (if ((rd_T63 x0 x4).f1) = 0 then (if x3 ≥ 0 then (some (-1)) else (cohousingref29_Root.l0 k x0 x4 (wrap64 (x4 + 1)))) else (cohousingref29_Root.l0 k x0 x3 (wrap64 (x4 + 1)))) else (none)) else (some x3)
def cohousingref29_Root.f (k : Nat) (l0 : List (S63)) : Option (Int) := cohousingref29_Root.l0 k l0 (-1) 0
theorem cohousingref29_Root.mono_l : ∀ k, (∀ y0 y1 y2, LeO (cohousingref29_Root.l0 k y0 y1 y2) (cohousingref29_Root.l0 (k + 1) y0 y1 y2))
 | 0 => fun _ _ _ r h => by simp [cohousingref29_Root.l0] at h
 | k + 1 => by
  have ih0 := cohousingref29_Root.mono_l k
  ·intro y0 y1 y2
   unfold cohousingref29_Root.l0
   repeat' first
   | (with_reducible exact ih0 _ _ _)
   | (with_reducible exact LeO.refl _)
   | (with_reducible exact LeO.none _)
   | (with_reducible refine LeO.ite ?_ ?_)
   | (with_reducible refine LeO.bind ?_ (fun _ => ?_))
   | exact ih0 _ _ _
   | exact LeO.none _
   | refine LeO.ite ?_ ?_
   | refine LeO.bind ?_ (fun _ => ?_)
theorem cohousingref29_Root.mono : ∀ a0 k, LeO (cohousingref29_Root.f k a0) (cohousingref29_Root.f (k + 1) a0) := by
 intro a0 k
 have ih0 := cohousingref29_Root.mono_l k
 unfold cohousingref29_Root.f
 repeat' first
   | (with_reducible exact ih0 _ _ _)
   | (with_reducible exact LeO.refl _)
   | (with_reducible exact LeO.none _)
   | (with_reducible refine LeO.ite ?_ ?_)
   | (with_reducible refine LeO.bind ?_ (fun _ => ?_))
   | exact ih0 _ _ _
   | exact LeO.none _
   | refine LeO.ite ?_ ?_
   | refine LeO.bind ?_ (fun _ => ?_)
theorem cohousingref29_Root.calls (k : Nat) (A0 : Option Addr) (c0 : Nat) (l0 : List (S63)) (r : Int) (w : World) (hr0 : Kd.C k63 w A0 l0.length l0) (hc0 : l0.length ≤ c0) (h : cohousingref29_Root.f k l0 = some r) :
  Calls Try.prog 18 #[.slice A0 l0.length c0] w fun e w' => e = .returned (.int .i64 r) ∧ Drawn0 w w' := by
 have HR0 := Aside0.mk hr0
 have HC0 := Aside0.mk hc0
 clear hr0 hc0
 have H : (cohousingref29_Root.l0 k l0 (-1) 0) = some r := h
 clear h
 have H' := Aside0.mk H
 clear H
 go_enter Try.func18, Try.ntmps18
 go_wp2
 go_loopg [3, 4] k (fun kq v3 v4 w' => ∃ (x3_1 : Int) (x4_1 : Int), v3 = .int .i64 x3_1 ∧ v4 = .int .i64 x4_1 ∧ Aside0 (cohousingref29_Root.l0 kq l0 x3_1 x4_1 = some r) ∧ Aside0 (kq ≤ k) ∧ Drawn0 w w')
 case atStart => exact ⟨((-1)), (0), sd_, sd_, H', ⟨Nat.le_refl _⟩, by repeat (first | exact Drawn0.refl _ | apply Drawn0.step)⟩
 case round =>
  clear H'
  try clear c1
  obtain ⟨x3_1, x4_1, rfl, rfl, HA, HK1, ⟨m1, rfl⟩⟩ := hrel
  cases gk with
  | zero => exact absurd HA.out (by simp [cohousingref29_Root.l0])
  | succ k1 =>
   have H := HA.out
   clear HA
   simp only [cohousingref29_Root.l0] at H
   by_cases c2 : x4_1 < (l0.length : Int)
   ·rw [if_pos c2] at H
    have c2b0 : decide (x4_1 < (l0.length : Int)) = true := decide_eq_true c2
    clear c2
    by_cases c3 : 0 ≤ x4_1
    ·rw [if_pos c3] at H
     have c3b0 : decide (0 ≤ x4_1) = true := decide_eq_true c3
     clear c3
     by_cases c4 : ((rd_T63 l0 x4_1).f1) = 0
     ·rw [if_pos c4] at H
      have c4b0 : (((rd_T63 l0 x4_1).f1) == 0) = true := beq_iff_eq.mpr c4
      have c4b1 : (((rd_T63 l0 x4_1).f1) != 0) = false := bne_eq_false_iff_eq.mpr c4
      clear c4
      by_cases c5 : x3_1 ≥ 0
      ·rw [if_pos c5] at H
       have c5b0 : decide (0 ≤ x3_1) = true := decide_eq_true c5
       clear c5
       obtain rfl := Option.some.inj H
       have p264 : 0 ≤ (x4_1 : Int) := od_
       have q264 : x4_1 < (l0.length : Int) := od_
       obtain ⟨ad264, e264, hx264_0, hx264_1, hx264_2⟩ := at_T63 HR0.out x4_1 p264 q264
       cases e264
       replace p264 := eq_true p264
       replace q264 := eq_true q264
       go_wp2
       go_ret
       exact ⟨by first | rfl | (simp; done) | (simp [*]; done), by repeat (first | exact Drawn0.refl _ | apply Drawn0.step)⟩
      ·rw [if_neg c5] at H
       have c5b0 : decide (0 ≤ x3_1) = false := decide_eq_false c5
       clear c5
       have H' := Aside0.mk H
       clear H
       have p264 : 0 ≤ (x4_1 : Int) := od_
       have q264 : x4_1 < (l0.length : Int) := od_
       obtain ⟨ad264, e264, hx264_0, hx264_1, hx264_2⟩ := at_T63 HR0.out x4_1 p264 q264
       cases e264
       replace p264 := eq_true p264
       replace q264 := eq_true q264
       go_wp2
       go_roundg k1
       case measure => have := HK1.out; omega
       case rel => exact ⟨(x4_1), (wrap64 (x4_1 + 1)), sd_, sd_, H', ⟨by have := HK1.out; omega⟩, by repeat (first | exact Drawn0.refl _ | apply Drawn0.step)⟩
     ·rw [if_neg c4] at H
      have c4b0 : (((rd_T63 l0 x4_1).f1) == 0) = false := beq_eq_false_iff_ne.mpr c4
      have c4b1 : (((rd_T63 l0 x4_1).f1) != 0) = true := bne_iff_ne.mpr c4
      have H' := Aside0.mk H
      clear H
      have p264 : 0 ≤ (x4_1 : Int) := od_
      have q264 : x4_1 < (l0.length : Int) := od_
      obtain ⟨ad264, e264, hx264_0, hx264_1, hx264_2⟩ := at_T63 HR0.out x4_1 p264 q264
      cases e264
      replace p264 := eq_true p264
      replace q264 := eq_true q264
      go_wp2
      go_roundg k1
      case measure => have := HK1.out; omega
      case rel => exact ⟨(x3_1), (wrap64 (x4_1 + 1)), sd_, sd_, H', ⟨by have := HK1.out; omega⟩, by repeat (first | exact Drawn0.refl _ | apply Drawn0.step)⟩
    ·rw [if_neg c3] at H
     exact absurd H (by simp)
   ·rw [if_neg c2] at H
    have c2b0 : decide (x4_1 < (l0.length : Int)) = false := decide_eq_false c2
    clear c2
    obtain rfl := Option.some.inj H
    go_wp2
    go_ret
    exact ⟨by first | rfl | (simp; done) | (simp [*]; done), by repeat (first | exact Drawn0.refl _ | apply Drawn0.step)⟩
end
section
def cohousingref28_Volume.f (a0 : Int) : Option (Bool) := if a0 ≥ 0 then (some (decide (a0 ≤ 1000000000))) else (some false)
theorem cohousingref28_Volume.calls (a0 : Int) (r : Bool) (w : World) (h : cohousingref28_Volume.f a0 = some r) :
  Calls Try.prog 85 #[.int .i64 a0] w fun e w' => e = .returned (.bool r) ∧ Drawn0 w w' := by
 have H : (if a0 ≥ 0 then (some (decide (a0 ≤ 1000000000))) else (some false)) = some r := h
 clear h
 by_cases c2 : a0 ≥ 0
 ·rw [if_pos c2] at H
  have c2b0 : decide (0 ≤ a0) = true := decide_eq_true c2
  clear c2
  obtain rfl := Option.some.inj H
  go_enter Try.func85, Try.ntmps85
  go_wp2
  go_ret
  exact ⟨by first | rfl | (simp; done) | (simp [*]; done), by repeat (first | exact Drawn0.refl _ | apply Drawn0.step)⟩
 ·rw [if_neg c2] at H
  have c2b0 : decide (0 ≤ a0) = false := decide_eq_false c2
  clear c2
  obtain rfl := Option.some.inj H
  go_enter Try.func85, Try.ntmps85
  go_wp2
  go_ret
  exact ⟨by first | rfl | (simp; done) | (simp [*]; done), by repeat (first | exact Drawn0.refl _ | apply Drawn0.step)⟩
end
section
def cohousingref28_At.l0 : Nat → List (S63) → Int → Int → Option (Int)
 | 0, _, _, _ => none
 | k + 1, x0, x1, x5 => if x5 < (x0.length : Int) then (if 0 ≤ x5 then (if ((rd_T63 x0 x5).f0) = x1 then (some x5) else (cohousingref28_At.l0 k x0 x1 (wrap64 (x5 + 1)))) else (none)) else (some (-1))
def cohousingref28_At.f (k : Nat) (l0 : List (S63)) (a1 : Int) : Option (Int) := cohousingref28_At.l0 k l0 a1 0
theorem cohousingref28_At.mono_l : ∀ k, (∀ y0 y1 y2, LeO (cohousingref28_At.l0 k y0 y1 y2) (cohousingref28_At.l0 (k + 1) y0 y1 y2))
 | 0 => fun _ _ _ r h => by simp [cohousingref28_At.l0] at h
 | k + 1 => by
  have ih0 := cohousingref28_At.mono_l k
  ·intro y0 y1 y2
   unfold cohousingref28_At.l0
   repeat' first
   | (with_reducible exact ih0 _ _ _)
   | (with_reducible exact LeO.refl _)
   | (with_reducible exact LeO.none _)
   | (with_reducible refine LeO.ite ?_ ?_)
   | (with_reducible refine LeO.bind ?_ (fun _ => ?_))
   | exact ih0 _ _ _
   | exact LeO.none _
   | refine LeO.ite ?_ ?_
   | refine LeO.bind ?_ (fun _ => ?_)
theorem cohousingref28_At.mono : ∀ a0 a1 k, LeO (cohousingref28_At.f k a0 a1) (cohousingref28_At.f (k + 1) a0 a1) := by
 intro a0 a1 k
 have ih0 := cohousingref28_At.mono_l k
 unfold cohousingref28_At.f
 repeat' first
   | (with_reducible exact ih0 _ _ _)
   | (with_reducible exact LeO.refl _)
   | (with_reducible exact LeO.none _)
   | (with_reducible refine LeO.ite ?_ ?_)
   | (with_reducible refine LeO.bind ?_ (fun _ => ?_))
   | exact ih0 _ _ _
   | exact LeO.none _
   | refine LeO.ite ?_ ?_
   | refine LeO.bind ?_ (fun _ => ?_)
theorem cohousingref28_At.calls (k : Nat) (A0 : Option Addr) (c0 : Nat) (l0 : List (S63)) (a1 : Int) (r : Int) (w : World) (hr0 : Kd.C k63 w A0 l0.length l0) (hc0 : l0.length ≤ c0) (h : cohousingref28_At.f k l0 a1 = some r) :
  Calls Try.prog 86 #[.slice A0 l0.length c0, .int .i64 a1] w fun e w' => e = .returned (.int .i64 r) ∧ Drawn0 w w' := by
 have HR0 := Aside0.mk hr0
 have HC0 := Aside0.mk hc0
 clear hr0 hc0
 have H : (cohousingref28_At.l0 k l0 a1 0) = some r := h
 clear h
 have H' := Aside0.mk H
 clear H
 go_enter Try.func86, Try.ntmps86
 go_wp2
 go_loopg [5] k (fun kq v5 w' => ∃ (x5_1 : Int), v5 = .int .i64 x5_1 ∧ Aside0 (cohousingref28_At.l0 kq l0 a1 x5_1 = some r) ∧ Aside0 (kq ≤ k) ∧ Drawn0 w w')
 case atStart => exact ⟨(0), sd_, H', ⟨Nat.le_refl _⟩, by repeat (first | exact Drawn0.refl _ | apply Drawn0.step)⟩
 case round =>
  clear H'
  try clear p2
  obtain ⟨x5_1, rfl, HA, HK1, ⟨m1, rfl⟩⟩ := hrel
  cases gk with
  | zero => exact absurd HA.out (by simp [cohousingref28_At.l0])
  | succ k1 =>
   have H := HA.out
   clear HA
   simp only [cohousingref28_At.l0] at H
   by_cases c3 : x5_1 < (l0.length : Int)
   ·rw [if_pos c3] at H
    have c3b0 : decide (x5_1 < (l0.length : Int)) = true := decide_eq_true c3
    clear c3
    by_cases c4 : 0 ≤ x5_1
    ·rw [if_pos c4] at H
     have c4b0 : decide (0 ≤ x5_1) = true := decide_eq_true c4
     clear c4
     by_cases c5 : ((rd_T63 l0 x5_1).f0) = a1
     ·rw [if_pos c5] at H
      have c5b0 : (((rd_T63 l0 x5_1).f0) == a1) = true := beq_iff_eq.mpr c5
      have c5b1 : (((rd_T63 l0 x5_1).f0) != a1) = false := bne_eq_false_iff_eq.mpr c5
      clear c5
      obtain rfl := Option.some.inj H
      have p265 : 0 ≤ (x5_1 : Int) := od_
      have q265 : x5_1 < (l0.length : Int) := od_
      obtain ⟨ad265, e265, hx265_0, hx265_1, hx265_2⟩ := at_T63 HR0.out x5_1 p265 q265
      cases e265
      replace p265 := eq_true p265
      replace q265 := eq_true q265
      go_wp2
      go_ret
      exact ⟨by first | rfl | (simp; done) | (simp [*]; done), by repeat (first | exact Drawn0.refl _ | apply Drawn0.step)⟩
     ·rw [if_neg c5] at H
      have c5b0 : (((rd_T63 l0 x5_1).f0) == a1) = false := beq_eq_false_iff_ne.mpr c5
      have c5b1 : (((rd_T63 l0 x5_1).f0) != a1) = true := bne_iff_ne.mpr c5
      have H' := Aside0.mk H
      clear H
      have p265 : 0 ≤ (x5_1 : Int) := od_
      have q265 : x5_1 < (l0.length : Int) := od_
      obtain ⟨ad265, e265, hx265_0, hx265_1, hx265_2⟩ := at_T63 HR0.out x5_1 p265 q265
      cases e265
      replace p265 := eq_true p265
      replace q265 := eq_true q265
      go_wp2
      go_roundg k1
      case measure => have := HK1.out; omega
      case rel => exact ⟨(wrap64 (x5_1 + 1)), sd_, H', ⟨by have := HK1.out; omega⟩, by repeat (first | exact Drawn0.refl _ | apply Drawn0.step)⟩
    ·rw [if_neg c4] at H
     exact absurd H (by simp)
   ·rw [if_neg c3] at H
    have c3b0 : decide (x5_1 < (l0.length : Int)) = false := decide_eq_false c3
    clear c3
    obtain rfl := Option.some.inj H
    go_wp2
    go_ret
    exact ⟨by first | rfl | (simp; done) | (simp [*]; done), by repeat (first | exact Drawn0.refl _ | apply Drawn0.step)⟩
end
section
mutual
def cohousingref28_Valid.l0 : Nat → List (S63) → Int → Option (Bool)
 | 0, _, _ => none
 | k + 1, x0, x3 => if x3 < (x0.length : Int) then (if 0 ≤ x3 then (if ((rd_T63 x0 x3).f0) < 1 then (cohousingref28_Valid.j1 k x0 x3 true) else (if x3 > 0 then (if 0 ≤ (wrap64 (x3 - 1)) then (if (wrap64 (x3 - 1)) < (x0.length : Int) then (if ((rd_T63 x0 x3).f0) ≤ ((rd_T63 x0 (wrap64 (x3 - 1))).f0) then (cohousingref28_Valid.j1 k x0 x3 true) else ((cohousingref28_Volume.f ((rd_T63 x0 x3).f2)).bind fun t270 => (cohousingref28_Valid.j1 k x0 x3 (!t270)))) else (none)) else (none)) else ((cohousingref28_Volume.f ((rd_T63 x0 x3).f2)).bind fun t272 => (cohousingref28_Valid.j1 k x0 x3 (!t272))))) else (none)) else (some (decide ((x0.length : Int) ≤ 200)))
def cohousingref28_Valid.j1 : Nat → List (S63) → Int → Bool → Option (Bool)
 | 0, _, _, _ => none
 | k + 1, x0, x3, x42 => if x42 = true then (some false) else (if 0 ≤ x3 then (if x3 < (x0.length : Int) then (if ((rd_T63 x0 x3).f1) = 0 then (cohousingref28_Valid.l0 k x0 (wrap64 (x3 + 1))) else (if x3 ≤ (x0.length : Int) then ((cohousingref28_At.f k (x0.take (x3 : Int).toNat) ((rd_T63 x0 x3).f1)).bind fun t279 => (if t279 < 0 then (some false) else (cohousingref28_Valid.l0 k x0 (wrap64 (x3 + 1))))) else (none))) else (none)) else (none))
end
def cohousingref28_Valid.f (k : Nat) (l0 : List (S63)) : Option (Bool) := cohousingref28_Valid.l0 k l0 0
theorem cohousingref28_Valid.mono_l : ∀ k, (∀ y0 y1, LeO (cohousingref28_Valid.l0 k y0 y1) (cohousingref28_Valid.l0 (k + 1) y0 y1)) ∧ (∀ y0 y1 y2, LeO (cohousingref28_Valid.j1 k y0 y1 y2) (cohousingref28_Valid.j1 (k + 1) y0 y1 y2))
 | 0 => ⟨fun _ _ r h => by simp [cohousingref28_Valid.l0] at h, fun _ _ _ r h => by simp [cohousingref28_Valid.j1] at h⟩
 | k + 1 => by
  obtain ⟨ih0, ih1⟩ := cohousingref28_Valid.mono_l k
  refine ⟨?_, ?_⟩
  ·intro y0 y1
   unfold cohousingref28_Valid.l0
   repeat' first
   | (with_reducible exact ih0 _ _)
   | (with_reducible exact ih1 _ _ _)
   | (with_reducible exact cohousingref28_At.mono _ _ _)
   | (with_reducible exact LeO.refl _)
   | (with_reducible exact LeO.none _)
   | (with_reducible refine LeO.ite ?_ ?_)
   | (with_reducible refine LeO.bind ?_ (fun _ => ?_))
   | exact ih0 _ _
   | exact ih1 _ _ _
   | exact cohousingref28_At.mono _ _ _
   | exact LeO.none _
   | refine LeO.ite ?_ ?_
   | refine LeO.bind ?_ (fun _ => ?_)
  ·intro y0 y1 y2
   unfold cohousingref28_Valid.j1
   repeat' first
   | (with_reducible exact ih0 _ _)
   | (with_reducible exact ih1 _ _ _)
   | (with_reducible exact cohousingref28_At.mono _ _ _)
   | (with_reducible exact LeO.refl _)
   | (with_reducible exact LeO.none _)
   | (with_reducible refine LeO.ite ?_ ?_)
   | (with_reducible refine LeO.bind ?_ (fun _ => ?_))
   | exact ih0 _ _
   | exact ih1 _ _ _
   | exact cohousingref28_At.mono _ _ _
   | exact LeO.none _
   | refine LeO.ite ?_ ?_
   | refine LeO.bind ?_ (fun _ => ?_)
theorem cohousingref28_Valid.mono : ∀ a0 k, LeO (cohousingref28_Valid.f k a0) (cohousingref28_Valid.f (k + 1) a0) := by
 intro a0 k
 obtain ⟨ih0, ih1⟩ := cohousingref28_Valid.mono_l k
 unfold cohousingref28_Valid.f
 repeat' first
   | (with_reducible exact ih0 _ _)
   | (with_reducible exact ih1 _ _ _)
   | (with_reducible exact cohousingref28_At.mono _ _ _)
   | (with_reducible exact LeO.refl _)
   | (with_reducible exact LeO.none _)
   | (with_reducible refine LeO.ite ?_ ?_)
   | (with_reducible refine LeO.bind ?_ (fun _ => ?_))
   | exact ih0 _ _
   | exact ih1 _ _ _
   | exact cohousingref28_At.mono _ _ _
   | exact LeO.none _
   | refine LeO.ite ?_ ?_
   | refine LeO.bind ?_ (fun _ => ?_)
def cohousingref28_Valid.T4 : Bool × List (List Nat × List Nat) := (true, [([], []), ([], []), ([0, 1], [0, 1]), ([2], [2]), ([3], [3]), ([4], [4]), ([5], [5]), ([6], [6]), ([7, 6], [6, 7]), ([8, 6, 6], [6, 8]), ([9], [9]), ([9], [9]), ([10, 11, 9], [9, 10, 11]), ([12, 9], [9, 12]), ([13, 9], [9, 13]), ([9], [9]), ([9], [9]), ([16, 9], [9, 16]), ([15, 17, 9], [9, 15, 17]), ([18, 9], [9, 18]), ([19, 9], [9, 19]), ([14, 20, 9], [9, 14, 20]), ([9, 21, 6], [6, 9, 21]), ([6, 22], [6, 22]), ([23, 9], [23]), ([24], [24]), ([24], [24]), ([25, 26, 24], [24, 25, 26]), ([27, 24], [24, 27]), ([28, 24], [24, 28]), ([29, 24, 24], [24, 29]), ([30, 24], [24, 30]), ([24, 31], [24, 31])])
def cohousingref28_Valid.B4 : List Nat := [0, 0, 3, 7, 15, 31, 63, 127, 255, 511, 1023, 1023, 4095, 8191, 16383, 1023, 1023, 66559, 230399, 492543, 1016831, 2097151, 4194303, 8388607, 16777215, 33554431, 33554431, 134217727, 268435455, 536870911, 1073741823, 2147483647, 4294967295]
theorem cohousingref28_Valid.tab4 : rtab .any (opsOf Try.f70 4) = cohousingref28_Valid.T4 := by kernel_rfl
theorem cohousingref28_Valid.bits4 : waitsOk cohousingref28_Valid.T4.2 cohousingref28_Valid.B4 = true := by kernel_rfl
def cohousingref28_Valid.T6 : Bool × List (List Nat × List Nat) := (true, [([], []), ([], []), ([0, 1], [0, 1]), ([2], [2]), ([3], [3]), ([4], [4]), ([5], [5]), ([6], [6]), ([6], [6]), ([7, 8, 6], [6, 7, 8]), ([6], [6]), ([6], [6]), ([10, 11, 6], [6, 10, 11]), ([12, 6], [6, 12]), ([13, 6], [6, 13]), ([9, 14, 6, 6], [6, 9, 14]), ([15, 6], [6, 15]), ([6, 16], [6, 16])])
def cohousingref28_Valid.B6 : List Nat := [0, 0, 3, 7, 15, 31, 63, 127, 127, 511, 127, 127, 3199, 7295, 15487, 32767, 65535, 131071]
theorem cohousingref28_Valid.tab6 : rtab .any (opsOf Try.f70 6) = cohousingref28_Valid.T6 := by kernel_rfl
theorem cohousingref28_Valid.bits6 : waitsOk cohousingref28_Valid.T6.2 cohousingref28_Valid.B6 = true := by kernel_rfl
theorem cohousingref28_Valid.calls (k : Nat) (A0 : Option Addr) (c0 : Nat) (l0 : List (S63)) (r : Bool) (w : World) (hr0 : Kd.C k63 w A0 l0.length l0) (hc0 : l0.length ≤ c0) (h : cohousingref28_Valid.f k l0 = some r) :
  Calls Try.prog 70 #[.slice A0 l0.length c0] w fun e w' => e = .returned (.bool r) ∧ Below w.heap.size w w' := by
 have HR0 := Aside0.mk hr0
 have HC0 := Aside0.mk hc0
 clear hr0 hc0
 have HB := Aside0.mk (Below.refl w.heap.size w)
 have H : (cohousingref28_Valid.l0 k l0 0) = some r := h
 clear h
 have H' := Aside0.mk H
 clear H
 go_enter Try.func70, Try.ntmps70
 go_wp2
 go_loopg [3] k (fun kq v3 w' => ∃ (x3_1 : Int), v3 = .int .i64 x3_1 ∧ Aside0 (cohousingref28_Valid.l0 kq l0 x3_1 = some r) ∧ Aside0 (kq ≤ k) ∧ Aside0 (Below w.heap.size w w'))
 case atStart => exact ⟨(0), sd_, H', ⟨Nat.le_refl _⟩, ⟨by repeat (first | (with_reducible first | exact HB.out | apply below_alloc | apply pw_below_drewN | apply below_drew1) | exact HB.out)⟩⟩
 case round =>
  clear H'
  obtain ⟨x3_1, rfl, HA, HK1, HB⟩ := hrel
  cases gk with
  | zero => exact absurd HA.out (by simp [cohousingref28_Valid.l0])
  | succ k1 =>
   have H := HA.out
   clear HA
   simp only [cohousingref28_Valid.l0] at H
   by_cases c2 : x3_1 < (l0.length : Int)
   ·rw [if_pos c2] at H
    have c2b0 : decide (x3_1 < (l0.length : Int)) = true := decide_eq_true c2
    clear c2
    have HC3 := Aside0.mk H
    clear H
    go_upto_region 4 with (fail)
    go_cut [42] (fun v42 wc => ∃ (kq : Nat) (x42_2 : Bool), v42 = .bool x42_2 ∧ Aside0 (cohousingref28_Valid.j1 kq l0 x3_1 x42_2 = some r) ∧ Aside0 (kq ≤ k1) ∧ Aside0 (Below w.heap.size w wc))
    case first =>
     have H := HC3.out
     clear HC3
     by_cases c4 : 0 ≤ x3_1
     ·rw [if_pos c4] at H
      have c4b0 : decide (0 ≤ x3_1) = true := decide_eq_true c4
      clear c4
      (first | rw [c4b0] | (simp only [i64_w, i32_w]; rw [c4b0]) | skip)
      by_cases c5 : ((rd_T63 l0 x3_1).f0) < 1
      ·rw [if_pos c5] at H
       have c5b0 : decide (((rd_T63 l0 x3_1).f0) < 1) = true := decide_eq_true c5
       clear c5
       have H' := Aside0.mk H
       clear H
       try go_wp2
       have n0_ := Aside0.mk (below_drew1 HB.out)
       clear HB
       have HB := n0_
       clear n0_
       have p266 : 0 ≤ (x3_1 : Int) := od_
       have q266 : x3_1 < (l0.length : Int) := od_
       obtain ⟨ad266, e266, hx266_0, hx266_1, hx266_2⟩ := at_T63 HR0.out x3_1 p266 q266
       have hw266_2 := hx266_2
       have hw266_1 := hx266_1
       have hw266_0 := hx266_0
       cases e266
       replace hx266_0 := (HB.out.cell (World.block_lt_of_cell? w _ hx266_0)).trans hx266_0
       replace hx266_1 := (HB.out.cell (World.block_lt_of_cell? w _ hx266_1)).trans hx266_1
       replace hx266_2 := (HB.out.cell (World.block_lt_of_cell? w _ hx266_2)).trans hx266_2
       replace p266 := eq_true p266
       replace q266 := eq_true q266
       refine start_ (n := 33) (S := fun w' => w'.cell? (ad266.add ((x3_1).toNat * 3)) = some (.int .i64 ((rd_T63 l0 x3_1).f0)) ∧ w'.cell? ⟨(ad266.add ((x3_1).toNat * 3)).block, (ad266.add ((x3_1).toNat * 3)).off + 1, none⟩ = some (.int .i64 ((rd_T63 l0 x3_1).f1)) ∧ w'.cell? ⟨(ad266.add ((x3_1).toNat * 3)).block, (ad266.add ((x3_1).toNat * 3)).off + 2, none⟩ = some (.int .i64 ((rd_T63 l0 x3_1).f2))) (ds := []) #[n_, n_, n_, n_, n_, n_, n_, n_, n_, n_, n_, n_, n_, n_, n_, n_, n_, n_, n_, n_, n_, n_, n_, n_, n_, n_, n_, n_, n_, n_, n_, n_, n_] (by kernel_rfl) rfl rfl ⟨((HB.out.cell (World.block_lt_of_cell? w _ hw266_0)).trans hw266_0), ((HB.out.cell (World.block_lt_of_cell? w _ hw266_1)).trans hw266_1), ((HB.out.cell (World.block_lt_of_cell? w _ hw266_2)).trans hw266_2)⟩ (fun hHeld => ?_); refine with_tabW cohousingref28_Valid.tab4 cohousingref28_Valid.bits4 (fun HT_ HW_ => ?_)
       generalize wr.drew = w6 at HB hx266_0 hx266_1 hx266_2 hHeld ⊢
       refine pu_ 0 10 (w_ 33 1) rfl HT_ ?_
       refine pu_ 1 11 (w_ 33 3) rfl HT_ ?_
       refine pu_ 2 12 (w_ 33 7) rfl HT_ ?_
       refine pu_ 3 13 (w_ 33 15) rfl HT_ ?_
       refine ta_ 4 14 (w_ 33 31) rfl HT_ HW_ hHeld (by rintro w' ⟨s0, s1, s2⟩; go_simp; with_reducible rfl) ?_
       refine pu_ 5 15 (w_ 33 63) rfl HT_ ?_
       refine pu_ 6 16 (w_ 33 127) rfl HT_ ?_
       refine pn_ 7 17 (w_ 33 255) rfl HT_ ?_
       refine pn_ 8 18 (w_ 33 511) rfl HT_ ?_
       refine pn_ 9 19 (w_ 33 1023) rfl HT_ ?_
       refine pn_ 10 20 (w_ 33 2047) rfl HT_ ?_
       refine pn_ 11 21 (w_ 33 4095) rfl HT_ ?_
       refine pn_ 12 22 (w_ 33 8191) rfl HT_ ?_
       refine pn_ 13 23 (w_ 33 16383) rfl HT_ ?_
       refine pn_ 14 24 (w_ 33 32767) rfl HT_ ?_
       refine pn_ 15 25 (w_ 33 65535) rfl HT_ ?_
       refine pn_ 16 26 (w_ 33 131071) rfl HT_ ?_
       refine pn_ 17 27 (w_ 33 262143) rfl HT_ ?_
       refine pn_ 18 28 (w_ 33 524287) rfl HT_ ?_
       refine pn_ 19 29 (w_ 33 1048575) rfl HT_ ?_
       refine pn_ 20 30 (w_ 33 2097151) rfl HT_ ?_
       refine pn_ 21 31 (w_ 33 4194303) rfl HT_ ?_
       refine pn_ 22 32 (w_ 33 8388607) rfl HT_ ?_
       refine pu_ 23 33 (w_ 33 16777215) rfl HT_ ?_
       refine pu_ 24 34 (w_ 33 33554431) rfl HT_ ?_
       refine pn_ 25 35 (w_ 33 67108863) rfl HT_ ?_
       refine pn_ 26 36 (w_ 33 134217727) rfl HT_ ?_
       refine pn_ 27 37 (w_ 33 268435455) rfl HT_ ?_
       refine pn_ 28 38 (w_ 33 536870911) rfl HT_ ?_
       refine pn_ 29 39 (w_ 33 1073741823) rfl HT_ ?_
       refine pn_ 30 40 (w_ 33 2147483647) rfl HT_ ?_
       refine pn_ 31 41 (w_ 33 4294967295) rfl HT_ ?_
       refine pu_ 32 42 (w_ 33 8589934591) rfl HT_ ?_
       refine done_ (done_of HT_.out (by kernel_rfl)) ?_
       try go_wp2
       go_meet
       case rel => exact ⟨_, (true), sd_, H', ⟨by have := HK1.out; first | omega | exact Nat.le_refl _⟩, ⟨by repeat (first | (with_reducible first | exact HB.out | apply below_alloc | apply pw_below_drewN | apply below_drew1) | exact HB.out)⟩⟩
      ·rw [if_neg c5] at H
       have c5b0 : decide (((rd_T63 l0 x3_1).f0) < 1) = false := decide_eq_false c5
       clear c5
       by_cases c7 : x3_1 > 0
       ·rw [if_pos c7] at H
        have c7b0 : decide (0 < x3_1) = true := decide_eq_true c7
        clear c7
        obtain ⟨ji8, hji8⟩ : ∃ j_ : Int, (wrap64 (x3_1 - 1)) = j_ := ⟨_, rfl⟩
        replace H : (if 0 ≤ (ji8) then (if (ji8) < (l0.length : Int) then (if ((rd_T63 l0 x3_1).f0) ≤ ((rd_T63 l0 (ji8)).f0) then (cohousingref28_Valid.j1 k1 l0 x3_1 true) else ((cohousingref28_Volume.f ((rd_T63 l0 x3_1).f2)).bind fun t270 => (cohousingref28_Valid.j1 k1 l0 x3_1 (!t270)))) else (none)) else (none)) = some r := by first | (rw [hji8] at H; exact H) | (simp only [hji8] at H ⊢; exact H)
        have hji8w : (IntKind.i64.wrap (x3_1 - 1)) = ji8 := (i64_w _).trans hji8
        by_cases c9 : 0 ≤ (ji8)
        ·rw [if_pos c9] at H
         have c9b0 : decide (0 ≤ (ji8)) = true := decide_eq_true c9
         clear c9
         by_cases c10 : (ji8) < (l0.length : Int)
         ·rw [if_pos c10] at H
          have c10b0 : decide ((ji8) < (l0.length : Int)) = true := decide_eq_true c10
          clear c10
          by_cases c11 : ((rd_T63 l0 x3_1).f0) ≤ ((rd_T63 l0 (ji8)).f0)
          ·rw [if_pos c11] at H
           have c11b0 : decide (((rd_T63 l0 x3_1).f0) ≤ ((rd_T63 l0 (ji8)).f0)) = true := decide_eq_true c11
           clear c11
           have H' := Aside0.mk H
           clear H
           try go_wp2
           have n0_ := Aside0.mk (below_drew1 HB.out)
           clear HB
           have HB := n0_
           clear n0_
           have p266 : 0 ≤ (x3_1 : Int) := od_
           have q266 : x3_1 < (l0.length : Int) := od_
           obtain ⟨ad266, e266, hx266_0, hx266_1, hx266_2⟩ := at_T63 HR0.out x3_1 p266 q266
           have hw266_2 := hx266_2
           have hw266_1 := hx266_1
           have hw266_0 := hx266_0
           cases e266
           replace hx266_0 := (HB.out.cell (World.block_lt_of_cell? w _ hx266_0)).trans hx266_0
           replace hx266_1 := (HB.out.cell (World.block_lt_of_cell? w _ hx266_1)).trans hx266_1
           replace hx266_2 := (HB.out.cell (World.block_lt_of_cell? w _ hx266_2)).trans hx266_2
           replace p266 := eq_true p266
           replace q266 := eq_true q266
           have p267 : 0 ≤ (x3_1 : Int) := od_
           have q267 : x3_1 < (l0.length : Int) := od_
           obtain ⟨ad267, e267, hx267_0, hx267_1, hx267_2⟩ := at_T63 HR0.out x3_1 p267 q267
           have hw267_2 := hx267_2
           have hw267_1 := hx267_1
           have hw267_0 := hx267_0
           obtain rfl : ad266 = ad267 := (by injection e267)
           replace hx267_0 := (HB.out.cell (World.block_lt_of_cell? w _ hx267_0)).trans hx267_0
           replace hx267_1 := (HB.out.cell (World.block_lt_of_cell? w _ hx267_1)).trans hx267_1
           replace hx267_2 := (HB.out.cell (World.block_lt_of_cell? w _ hx267_2)).trans hx267_2
           replace p267 := eq_true p267
           replace q267 := eq_true q267
           have p268 : 0 ≤ ((ji8) : Int) := od_
           have q268 : (ji8) < (l0.length : Int) := od_
           obtain ⟨ad268, e268, hx268_0, hx268_1, hx268_2⟩ := at_T63 HR0.out (ji8) p268 q268
           have hw268_2 := hx268_2
           have hw268_1 := hx268_1
           have hw268_0 := hx268_0
           obtain rfl : ad266 = ad268 := (by injection e268)
           replace hx268_0 := (HB.out.cell (World.block_lt_of_cell? w _ hx268_0)).trans hx268_0
           replace hx268_1 := (HB.out.cell (World.block_lt_of_cell? w _ hx268_1)).trans hx268_1
           replace hx268_2 := (HB.out.cell (World.block_lt_of_cell? w _ hx268_2)).trans hx268_2
           replace p268 := eq_true p268
           replace q268 := eq_true q268
           refine start_ (n := 33) (S := fun w' => w'.cell? (ad266.add ((x3_1).toNat * 3)) = some (.int .i64 ((rd_T63 l0 x3_1).f0)) ∧ w'.cell? ⟨(ad266.add ((x3_1).toNat * 3)).block, (ad266.add ((x3_1).toNat * 3)).off + 1, none⟩ = some (.int .i64 ((rd_T63 l0 x3_1).f1)) ∧ w'.cell? ⟨(ad266.add ((x3_1).toNat * 3)).block, (ad266.add ((x3_1).toNat * 3)).off + 2, none⟩ = some (.int .i64 ((rd_T63 l0 x3_1).f2)) ∧ w'.cell? (ad266.add ((x3_1).toNat * 3)) = some (.int .i64 ((rd_T63 l0 x3_1).f0)) ∧ w'.cell? ⟨(ad266.add ((x3_1).toNat * 3)).block, (ad266.add ((x3_1).toNat * 3)).off + 1, none⟩ = some (.int .i64 ((rd_T63 l0 x3_1).f1)) ∧ w'.cell? ⟨(ad266.add ((x3_1).toNat * 3)).block, (ad266.add ((x3_1).toNat * 3)).off + 2, none⟩ = some (.int .i64 ((rd_T63 l0 x3_1).f2)) ∧ w'.cell? (ad266.add (((ji8)).toNat * 3)) = some (.int .i64 ((rd_T63 l0 (ji8)).f0)) ∧ w'.cell? ⟨(ad266.add (((ji8)).toNat * 3)).block, (ad266.add (((ji8)).toNat * 3)).off + 1, none⟩ = some (.int .i64 ((rd_T63 l0 (ji8)).f1)) ∧ w'.cell? ⟨(ad266.add (((ji8)).toNat * 3)).block, (ad266.add (((ji8)).toNat * 3)).off + 2, none⟩ = some (.int .i64 ((rd_T63 l0 (ji8)).f2))) (ds := []) #[n_, n_, n_, n_, n_, n_, n_, n_, n_, n_, n_, n_, n_, n_, n_, n_, n_, n_, n_, n_, n_, n_, n_, n_, n_, n_, n_, n_, n_, n_, n_, n_, n_] (by kernel_rfl) rfl rfl ⟨((HB.out.cell (World.block_lt_of_cell? w _ hw266_0)).trans hw266_0), ((HB.out.cell (World.block_lt_of_cell? w _ hw266_1)).trans hw266_1), ((HB.out.cell (World.block_lt_of_cell? w _ hw266_2)).trans hw266_2), ((HB.out.cell (World.block_lt_of_cell? w _ hw267_0)).trans hw267_0), ((HB.out.cell (World.block_lt_of_cell? w _ hw267_1)).trans hw267_1), ((HB.out.cell (World.block_lt_of_cell? w _ hw267_2)).trans hw267_2), ((HB.out.cell (World.block_lt_of_cell? w _ hw268_0)).trans hw268_0), ((HB.out.cell (World.block_lt_of_cell? w _ hw268_1)).trans hw268_1), ((HB.out.cell (World.block_lt_of_cell? w _ hw268_2)).trans hw268_2)⟩ (fun hHeld => ?_); refine with_tabW cohousingref28_Valid.tab4 cohousingref28_Valid.bits4 (fun HT_ HW_ => ?_)
           generalize wr.drew = w12 at HB hx266_0 hx266_1 hx266_2 hx267_0 hx267_1 hx267_2 hx268_0 hx268_1 hx268_2 hHeld ⊢
           refine pu_ 0 10 (w_ 33 1) rfl HT_ ?_
           refine pu_ 1 11 (w_ 33 3) rfl HT_ ?_
           refine pu_ 2 12 (w_ 33 7) rfl HT_ ?_
           refine pu_ 3 13 (w_ 33 15) rfl HT_ ?_
           refine ta_ 4 14 (w_ 33 31) rfl HT_ HW_ hHeld (by rintro w' ⟨s0, s1, s2, s3, s4, s5, s6, s7, s8⟩; go_simp; with_reducible rfl) ?_
           refine pu_ 5 15 (w_ 33 63) rfl HT_ ?_
           refine pu_ 6 16 (w_ 33 127) rfl HT_ ?_
           refine pu_ 7 17 (w_ 33 255) rfl HT_ ?_
           refine pu_ 8 18 (w_ 33 511) rfl HT_ ?_
           refine pu_ 9 19 (w_ 33 1023) rfl HT_ ?_
           refine pu_ 10 20 (w_ 33 2047) rfl HT_ ?_
           refine pu_ 11 21 (w_ 33 4095) rfl HT_ ?_
           refine pu_ 12 22 (w_ 33 8191) rfl HT_ ?_
           refine pu_ 13 23 (w_ 33 16383) rfl HT_ ?_
           refine pu_ 15 25 (w_ 33 49151) rfl HT_ ?_
           refine pu_ 16 26 (w_ 33 114687) rfl HT_ ?_
           refine pu_ 17 27 (w_ 33 245759) rfl HT_ ?_
           refine pu_ 18 28 (w_ 33 507903) rfl HT_ ?_
           refine pu_ 19 29 (w_ 33 1032191) rfl HT_ ?_
           refine ta_ 14 24 (w_ 33 1048575) rfl HT_ HW_ hHeld (by rintro w' ⟨s0, s1, s2, s3, s4, s5, s6, s7, s8⟩; go_simp; with_reducible rfl) ?_
           refine ta_ 20 30 (w_ 33 2097151) rfl HT_ HW_ hHeld (by rintro w' ⟨s0, s1, s2, s3, s4, s5, s6, s7, s8⟩; go_simp; with_reducible rfl) ?_
           refine pu_ 21 31 (w_ 33 4194303) rfl HT_ ?_
           refine pu_ 22 32 (w_ 33 8388607) rfl HT_ ?_
           refine pu_ 23 33 (w_ 33 16777215) rfl HT_ ?_
           refine pu_ 24 34 (w_ 33 33554431) rfl HT_ ?_
           refine pn_ 25 35 (w_ 33 67108863) rfl HT_ ?_
           refine pn_ 26 36 (w_ 33 134217727) rfl HT_ ?_
           refine pn_ 27 37 (w_ 33 268435455) rfl HT_ ?_
           refine pn_ 28 38 (w_ 33 536870911) rfl HT_ ?_
           refine pn_ 29 39 (w_ 33 1073741823) rfl HT_ ?_
           refine pn_ 30 40 (w_ 33 2147483647) rfl HT_ ?_
           refine pn_ 31 41 (w_ 33 4294967295) rfl HT_ ?_
           refine pu_ 32 42 (w_ 33 8589934591) rfl HT_ ?_
           refine done_ (done_of HT_.out (by kernel_rfl)) ?_
           try go_wp2
           go_meet
           case rel => exact ⟨_, (true), sd_, H', ⟨by have := HK1.out; first | omega | exact Nat.le_refl _⟩, ⟨by repeat (first | (with_reducible first | exact HB.out | apply below_alloc | apply pw_below_drewN | apply below_drew1) | exact HB.out)⟩⟩
          ·rw [if_neg c11] at H
           have c11b0 : decide (((rd_T63 l0 x3_1).f0) ≤ ((rd_T63 l0 (ji8)).f0)) = false := decide_eq_false c11
           clear c11
           replace H := Option.bind_eq_some_iff.mp H
           obtain ⟨t270, A130, H⟩ := H
           replace H : (cohousingref28_Valid.j1 k1 l0 x3_1 (!t270)) = some r := H
           have A13 := Aside0.mk A130
           clear A130
           have H' := Aside0.mk H
           clear H
           try go_wp2
           have n0_ := Aside0.mk (below_drew1 HB.out)
           clear HB
           have HB := n0_
           clear n0_
           have p266 : 0 ≤ (x3_1 : Int) := od_
           have q266 : x3_1 < (l0.length : Int) := od_
           obtain ⟨ad266, e266, hx266_0, hx266_1, hx266_2⟩ := at_T63 HR0.out x3_1 p266 q266
           have hw266_2 := hx266_2
           have hw266_1 := hx266_1
           have hw266_0 := hx266_0
           cases e266
           replace hx266_0 := (HB.out.cell (World.block_lt_of_cell? w _ hx266_0)).trans hx266_0
           replace hx266_1 := (HB.out.cell (World.block_lt_of_cell? w _ hx266_1)).trans hx266_1
           replace hx266_2 := (HB.out.cell (World.block_lt_of_cell? w _ hx266_2)).trans hx266_2
           replace p266 := eq_true p266
           replace q266 := eq_true q266
           have p267 : 0 ≤ (x3_1 : Int) := od_
           have q267 : x3_1 < (l0.length : Int) := od_
           obtain ⟨ad267, e267, hx267_0, hx267_1, hx267_2⟩ := at_T63 HR0.out x3_1 p267 q267
           have hw267_2 := hx267_2
           have hw267_1 := hx267_1
           have hw267_0 := hx267_0
           obtain rfl : ad266 = ad267 := (by injection e267)
           replace hx267_0 := (HB.out.cell (World.block_lt_of_cell? w _ hx267_0)).trans hx267_0
           replace hx267_1 := (HB.out.cell (World.block_lt_of_cell? w _ hx267_1)).trans hx267_1
           replace hx267_2 := (HB.out.cell (World.block_lt_of_cell? w _ hx267_2)).trans hx267_2
           replace p267 := eq_true p267
           replace q267 := eq_true q267
           have p268 : 0 ≤ ((ji8) : Int) := od_
           have q268 : (ji8) < (l0.length : Int) := od_
           obtain ⟨ad268, e268, hx268_0, hx268_1, hx268_2⟩ := at_T63 HR0.out (ji8) p268 q268
           have hw268_2 := hx268_2
           have hw268_1 := hx268_1
           have hw268_0 := hx268_0
           obtain rfl : ad266 = ad268 := (by injection e268)
           replace hx268_0 := (HB.out.cell (World.block_lt_of_cell? w _ hx268_0)).trans hx268_0
           replace hx268_1 := (HB.out.cell (World.block_lt_of_cell? w _ hx268_1)).trans hx268_1
           replace hx268_2 := (HB.out.cell (World.block_lt_of_cell? w _ hx268_2)).trans hx268_2
           replace p268 := eq_true p268
           replace q268 := eq_true q268
           have p269 : 0 ≤ (x3_1 : Int) := od_
           have q269 : x3_1 < (l0.length : Int) := od_
           obtain ⟨ad269, e269, hx269_0, hx269_1, hx269_2⟩ := at_T63 HR0.out x3_1 p269 q269
           have hw269_2 := hx269_2
           have hw269_1 := hx269_1
           have hw269_0 := hx269_0
           obtain rfl : ad266 = ad269 := (by injection e269)
           replace hx269_0 := (HB.out.cell (World.block_lt_of_cell? w _ hx269_0)).trans hx269_0
           replace hx269_1 := (HB.out.cell (World.block_lt_of_cell? w _ hx269_1)).trans hx269_1
           replace hx269_2 := (HB.out.cell (World.block_lt_of_cell? w _ hx269_2)).trans hx269_2
           replace p269 := eq_true p269
           replace q269 := eq_true q269
           refine start_ (n := 33) (S := fun w' => w'.cell? (ad266.add ((x3_1).toNat * 3)) = some (.int .i64 ((rd_T63 l0 x3_1).f0)) ∧ w'.cell? ⟨(ad266.add ((x3_1).toNat * 3)).block, (ad266.add ((x3_1).toNat * 3)).off + 1, none⟩ = some (.int .i64 ((rd_T63 l0 x3_1).f1)) ∧ w'.cell? ⟨(ad266.add ((x3_1).toNat * 3)).block, (ad266.add ((x3_1).toNat * 3)).off + 2, none⟩ = some (.int .i64 ((rd_T63 l0 x3_1).f2)) ∧ w'.cell? (ad266.add ((x3_1).toNat * 3)) = some (.int .i64 ((rd_T63 l0 x3_1).f0)) ∧ w'.cell? ⟨(ad266.add ((x3_1).toNat * 3)).block, (ad266.add ((x3_1).toNat * 3)).off + 1, none⟩ = some (.int .i64 ((rd_T63 l0 x3_1).f1)) ∧ w'.cell? ⟨(ad266.add ((x3_1).toNat * 3)).block, (ad266.add ((x3_1).toNat * 3)).off + 2, none⟩ = some (.int .i64 ((rd_T63 l0 x3_1).f2)) ∧ w'.cell? (ad266.add (((ji8)).toNat * 3)) = some (.int .i64 ((rd_T63 l0 (ji8)).f0)) ∧ w'.cell? ⟨(ad266.add (((ji8)).toNat * 3)).block, (ad266.add (((ji8)).toNat * 3)).off + 1, none⟩ = some (.int .i64 ((rd_T63 l0 (ji8)).f1)) ∧ w'.cell? ⟨(ad266.add (((ji8)).toNat * 3)).block, (ad266.add (((ji8)).toNat * 3)).off + 2, none⟩ = some (.int .i64 ((rd_T63 l0 (ji8)).f2)) ∧ w'.cell? (ad266.add ((x3_1).toNat * 3)) = some (.int .i64 ((rd_T63 l0 x3_1).f0)) ∧ w'.cell? ⟨(ad266.add ((x3_1).toNat * 3)).block, (ad266.add ((x3_1).toNat * 3)).off + 1, none⟩ = some (.int .i64 ((rd_T63 l0 x3_1).f1)) ∧ w'.cell? ⟨(ad266.add ((x3_1).toNat * 3)).block, (ad266.add ((x3_1).toNat * 3)).off + 2, none⟩ = some (.int .i64 ((rd_T63 l0 x3_1).f2))) (ds := []) #[n_, n_, n_, n_, n_, n_, n_, n_, n_, n_, n_, n_, n_, n_, n_, n_, n_, n_, n_, n_, n_, n_, n_, n_, n_, n_, n_, n_, n_, n_, n_, n_, n_] (by kernel_rfl) rfl rfl ⟨((HB.out.cell (World.block_lt_of_cell? w _ hw266_0)).trans hw266_0), ((HB.out.cell (World.block_lt_of_cell? w _ hw266_1)).trans hw266_1), ((HB.out.cell (World.block_lt_of_cell? w _ hw266_2)).trans hw266_2), ((HB.out.cell (World.block_lt_of_cell? w _ hw267_0)).trans hw267_0), ((HB.out.cell (World.block_lt_of_cell? w _ hw267_1)).trans hw267_1), ((HB.out.cell (World.block_lt_of_cell? w _ hw267_2)).trans hw267_2), ((HB.out.cell (World.block_lt_of_cell? w _ hw268_0)).trans hw268_0), ((HB.out.cell (World.block_lt_of_cell? w _ hw268_1)).trans hw268_1), ((HB.out.cell (World.block_lt_of_cell? w _ hw268_2)).trans hw268_2), ((HB.out.cell (World.block_lt_of_cell? w _ hw269_0)).trans hw269_0), ((HB.out.cell (World.block_lt_of_cell? w _ hw269_1)).trans hw269_1), ((HB.out.cell (World.block_lt_of_cell? w _ hw269_2)).trans hw269_2)⟩ (fun hHeld => ?_); refine with_tabW cohousingref28_Valid.tab4 cohousingref28_Valid.bits4 (fun HT_ HW_ => ?_)
           generalize wr.drew = w14 at HB hx266_0 hx266_1 hx266_2 hx267_0 hx267_1 hx267_2 hx268_0 hx268_1 hx268_2 hx269_0 hx269_1 hx269_2 hHeld ⊢
           refine pu_ 0 10 (w_ 33 1) rfl HT_ ?_
           refine pu_ 1 11 (w_ 33 3) rfl HT_ ?_
           refine pu_ 2 12 (w_ 33 7) rfl HT_ ?_
           refine pu_ 3 13 (w_ 33 15) rfl HT_ ?_
           refine ta_ 4 14 (w_ 33 31) rfl HT_ HW_ hHeld (by rintro w' ⟨s0, s1, s2, s3, s4, s5, s6, s7, s8, s9, s10, s11⟩; go_simp; with_reducible rfl) ?_
           refine pu_ 5 15 (w_ 33 63) rfl HT_ ?_
           refine pu_ 6 16 (w_ 33 127) rfl HT_ ?_
           refine pu_ 7 17 (w_ 33 255) rfl HT_ ?_
           refine pu_ 8 18 (w_ 33 511) rfl HT_ ?_
           refine pu_ 9 19 (w_ 33 1023) rfl HT_ ?_
           refine pu_ 10 20 (w_ 33 2047) rfl HT_ ?_
           refine pu_ 11 21 (w_ 33 4095) rfl HT_ ?_
           refine pu_ 12 22 (w_ 33 8191) rfl HT_ ?_
           refine pu_ 13 23 (w_ 33 16383) rfl HT_ ?_
           refine pu_ 15 25 (w_ 33 49151) rfl HT_ ?_
           refine pu_ 16 26 (w_ 33 114687) rfl HT_ ?_
           refine pu_ 17 27 (w_ 33 245759) rfl HT_ ?_
           refine pu_ 18 28 (w_ 33 507903) rfl HT_ ?_
           refine pu_ 19 29 (w_ 33 1032191) rfl HT_ ?_
           refine ta_ 14 24 (w_ 33 1048575) rfl HT_ HW_ hHeld (by rintro w' ⟨s0, s1, s2, s3, s4, s5, s6, s7, s8, s9, s10, s11⟩; go_simp; with_reducible rfl) ?_
           refine ta_ 20 30 (w_ 33 2097151) rfl HT_ HW_ hHeld (by rintro w' ⟨s0, s1, s2, s3, s4, s5, s6, s7, s8, s9, s10, s11⟩; go_simp; with_reducible rfl) ?_
           refine pu_ 21 31 (w_ 33 4194303) rfl HT_ ?_
           refine pu_ 22 32 (w_ 33 8388607) rfl HT_ ?_
           refine pu_ 23 33 (w_ 33 16777215) rfl HT_ ?_
           refine pu_ 24 34 (w_ 33 33554431) rfl HT_ ?_
           refine pu_ 25 35 (w_ 33 67108863) rfl HT_ ?_
           refine pu_ 26 36 (w_ 33 134217727) rfl HT_ ?_
           refine pu_ 27 37 (w_ 33 268435455) rfl HT_ ?_
           refine pu_ 28 38 (w_ 33 536870911) rfl HT_ ?_
           refine ta_ 29 39 (w_ 33 1073741823) rfl HT_ HW_ hHeld (by rintro w' ⟨s0, s1, s2, s3, s4, s5, s6, s7, s8, s9, s10, s11⟩; go_simp; with_reducible rfl) ?_
           refine one_ (i := 30) (N := some 40) (w_ 33 2147483647) rfl rfl (one_of HT_.out (by kernel_rfl)) (by decide) (fun K hK => ?_)
           refine goes_ Try.func85 (by kernel_rfl) rfl #[.int .i64 ((rd_T63 l0 x3_1).f2)] (by rfl) rfl rfl (by (try simp only [List.map_toArray, List.map_cons, List.map_nil]); first | done | rfl | (simp only [List.length_drop, List.length_take]; rfl)) ?_
           with_reducible refine (cohousingref28_Volume.calls ((rd_T63 l0 x3_1).f2) t270 _ A13.out).mono ?_
           rintro e w' ⟨rfl, ⟨nd, rfl⟩⟩
           refine ⟨_, rfl, ?_⟩
           refine hK.out _ _ ⟨((HB.out.cell (World.block_lt_of_cell? w _ hw266_0)).trans hw266_0), ((HB.out.cell (World.block_lt_of_cell? w _ hw266_1)).trans hw266_1), ((HB.out.cell (World.block_lt_of_cell? w _ hw266_2)).trans hw266_2), ((HB.out.cell (World.block_lt_of_cell? w _ hw267_0)).trans hw267_0), ((HB.out.cell (World.block_lt_of_cell? w _ hw267_1)).trans hw267_1), ((HB.out.cell (World.block_lt_of_cell? w _ hw267_2)).trans hw267_2), ((HB.out.cell (World.block_lt_of_cell? w _ hw268_0)).trans hw268_0), ((HB.out.cell (World.block_lt_of_cell? w _ hw268_1)).trans hw268_1), ((HB.out.cell (World.block_lt_of_cell? w _ hw268_2)).trans hw268_2), ((HB.out.cell (World.block_lt_of_cell? w _ hw269_0)).trans hw269_0), ((HB.out.cell (World.block_lt_of_cell? w _ hw269_1)).trans hw269_1), ((HB.out.cell (World.block_lt_of_cell? w _ hw269_2)).trans hw269_2)⟩ (fun hHeld => ?_)
           clear hK K
           refine norm_ (a' := ?_) ?_ ?_
           rotate_left
           ·show Act.put _ (some 40) _ = _
            simp only [Act.put, sI_, s0_, sS_, i64_w, i32_w]
            rfl
           refine pu_ 31 41 (w_ 33 4294967295) rfl HT_ ?_
           refine pu_ 32 42 (w_ 33 8589934591) rfl HT_ ?_
           refine done_ (done_of HT_.out (by kernel_rfl)) ?_
           try go_wp2
           go_meet
           case rel => exact ⟨_, (!t270), sd_, H', ⟨by have := HK1.out; first | omega | exact Nat.le_refl _⟩, ⟨by repeat (first | (with_reducible first | exact HB.out | apply below_alloc | apply pw_below_drewN | apply below_drew1) | exact HB.out)⟩⟩
         ·rw [if_neg c10] at H
          exact absurd H (by simp)
        ·rw [if_neg c9] at H
         exact absurd H (by simp)
       ·rw [if_neg c7] at H
        have c7b0 : decide (0 < x3_1) = false := decide_eq_false c7
        clear c7
        replace H := Option.bind_eq_some_iff.mp H
        obtain ⟨t272, A150, H⟩ := H
        replace H : (cohousingref28_Valid.j1 k1 l0 x3_1 (!t272)) = some r := H
        have A15 := Aside0.mk A150
        clear A150
        have H' := Aside0.mk H
        clear H
        try go_wp2
        have n0_ := Aside0.mk (below_drew1 HB.out)
        clear HB
        have HB := n0_
        clear n0_
        have p266 : 0 ≤ (x3_1 : Int) := od_
        have q266 : x3_1 < (l0.length : Int) := od_
        obtain ⟨ad266, e266, hx266_0, hx266_1, hx266_2⟩ := at_T63 HR0.out x3_1 p266 q266
        have hw266_2 := hx266_2
        have hw266_1 := hx266_1
        have hw266_0 := hx266_0
        cases e266
        replace hx266_0 := (HB.out.cell (World.block_lt_of_cell? w _ hx266_0)).trans hx266_0
        replace hx266_1 := (HB.out.cell (World.block_lt_of_cell? w _ hx266_1)).trans hx266_1
        replace hx266_2 := (HB.out.cell (World.block_lt_of_cell? w _ hx266_2)).trans hx266_2
        replace p266 := eq_true p266
        replace q266 := eq_true q266
        have p271 : 0 ≤ (x3_1 : Int) := od_
        have q271 : x3_1 < (l0.length : Int) := od_
        obtain ⟨ad271, e271, hx271_0, hx271_1, hx271_2⟩ := at_T63 HR0.out x3_1 p271 q271
        have hw271_2 := hx271_2
        have hw271_1 := hx271_1
        have hw271_0 := hx271_0
        obtain rfl : ad266 = ad271 := (by injection e271)
        replace hx271_0 := (HB.out.cell (World.block_lt_of_cell? w _ hx271_0)).trans hx271_0
        replace hx271_1 := (HB.out.cell (World.block_lt_of_cell? w _ hx271_1)).trans hx271_1
        replace hx271_2 := (HB.out.cell (World.block_lt_of_cell? w _ hx271_2)).trans hx271_2
        replace p271 := eq_true p271
        replace q271 := eq_true q271
        refine start_ (n := 33) (S := fun w' => w'.cell? (ad266.add ((x3_1).toNat * 3)) = some (.int .i64 ((rd_T63 l0 x3_1).f0)) ∧ w'.cell? ⟨(ad266.add ((x3_1).toNat * 3)).block, (ad266.add ((x3_1).toNat * 3)).off + 1, none⟩ = some (.int .i64 ((rd_T63 l0 x3_1).f1)) ∧ w'.cell? ⟨(ad266.add ((x3_1).toNat * 3)).block, (ad266.add ((x3_1).toNat * 3)).off + 2, none⟩ = some (.int .i64 ((rd_T63 l0 x3_1).f2)) ∧ w'.cell? (ad266.add ((x3_1).toNat * 3)) = some (.int .i64 ((rd_T63 l0 x3_1).f0)) ∧ w'.cell? ⟨(ad266.add ((x3_1).toNat * 3)).block, (ad266.add ((x3_1).toNat * 3)).off + 1, none⟩ = some (.int .i64 ((rd_T63 l0 x3_1).f1)) ∧ w'.cell? ⟨(ad266.add ((x3_1).toNat * 3)).block, (ad266.add ((x3_1).toNat * 3)).off + 2, none⟩ = some (.int .i64 ((rd_T63 l0 x3_1).f2))) (ds := []) #[n_, n_, n_, n_, n_, n_, n_, n_, n_, n_, n_, n_, n_, n_, n_, n_, n_, n_, n_, n_, n_, n_, n_, n_, n_, n_, n_, n_, n_, n_, n_, n_, n_] (by kernel_rfl) rfl rfl ⟨((HB.out.cell (World.block_lt_of_cell? w _ hw266_0)).trans hw266_0), ((HB.out.cell (World.block_lt_of_cell? w _ hw266_1)).trans hw266_1), ((HB.out.cell (World.block_lt_of_cell? w _ hw266_2)).trans hw266_2), ((HB.out.cell (World.block_lt_of_cell? w _ hw271_0)).trans hw271_0), ((HB.out.cell (World.block_lt_of_cell? w _ hw271_1)).trans hw271_1), ((HB.out.cell (World.block_lt_of_cell? w _ hw271_2)).trans hw271_2)⟩ (fun hHeld => ?_); refine with_tabW cohousingref28_Valid.tab4 cohousingref28_Valid.bits4 (fun HT_ HW_ => ?_)
        generalize wr.drew = w16 at HB hx266_0 hx266_1 hx266_2 hx271_0 hx271_1 hx271_2 hHeld ⊢
        refine pu_ 0 10 (w_ 33 1) rfl HT_ ?_
        refine pu_ 1 11 (w_ 33 3) rfl HT_ ?_
        refine pu_ 2 12 (w_ 33 7) rfl HT_ ?_
        refine pu_ 3 13 (w_ 33 15) rfl HT_ ?_
        refine ta_ 4 14 (w_ 33 31) rfl HT_ HW_ hHeld (by rintro w' ⟨s0, s1, s2, s3, s4, s5⟩; go_simp; with_reducible rfl) ?_
        refine pu_ 5 15 (w_ 33 63) rfl HT_ ?_
        refine pu_ 6 16 (w_ 33 127) rfl HT_ ?_
        refine pu_ 7 17 (w_ 33 255) rfl HT_ ?_
        refine pu_ 8 18 (w_ 33 511) rfl HT_ ?_
        refine pu_ 9 19 (w_ 33 1023) rfl HT_ ?_
        refine pn_ 10 20 (w_ 33 2047) rfl HT_ ?_
        refine pn_ 11 21 (w_ 33 4095) rfl HT_ ?_
        refine pn_ 12 22 (w_ 33 8191) rfl HT_ ?_
        refine pn_ 13 23 (w_ 33 16383) rfl HT_ ?_
        refine pn_ 14 24 (w_ 33 32767) rfl HT_ ?_
        refine pn_ 15 25 (w_ 33 65535) rfl HT_ ?_
        refine pn_ 16 26 (w_ 33 131071) rfl HT_ ?_
        refine pn_ 17 27 (w_ 33 262143) rfl HT_ ?_
        refine pn_ 18 28 (w_ 33 524287) rfl HT_ ?_
        refine pn_ 19 29 (w_ 33 1048575) rfl HT_ ?_
        refine pn_ 20 30 (w_ 33 2097151) rfl HT_ ?_
        refine pn_ 21 31 (w_ 33 4194303) rfl HT_ ?_
        refine pu_ 22 32 (w_ 33 8388607) rfl HT_ ?_
        refine pu_ 23 33 (w_ 33 16777215) rfl HT_ ?_
        refine pu_ 24 34 (w_ 33 33554431) rfl HT_ ?_
        refine pu_ 25 35 (w_ 33 67108863) rfl HT_ ?_
        refine pu_ 26 36 (w_ 33 134217727) rfl HT_ ?_
        refine pu_ 27 37 (w_ 33 268435455) rfl HT_ ?_
        refine pu_ 28 38 (w_ 33 536870911) rfl HT_ ?_
        refine ta_ 29 39 (w_ 33 1073741823) rfl HT_ HW_ hHeld (by rintro w' ⟨s0, s1, s2, s3, s4, s5⟩; go_simp; with_reducible rfl) ?_
        refine one_ (i := 30) (N := some 40) (w_ 33 2147483647) rfl rfl (one_of HT_.out (by kernel_rfl)) (by decide) (fun K hK => ?_)
        refine goes_ Try.func85 (by kernel_rfl) rfl #[.int .i64 ((rd_T63 l0 x3_1).f2)] (by rfl) rfl rfl (by (try simp only [List.map_toArray, List.map_cons, List.map_nil]); first | done | rfl | (simp only [List.length_drop, List.length_take]; rfl)) ?_
        with_reducible refine (cohousingref28_Volume.calls ((rd_T63 l0 x3_1).f2) t272 _ A15.out).mono ?_
        rintro e w' ⟨rfl, ⟨nd, rfl⟩⟩
        refine ⟨_, rfl, ?_⟩
        refine hK.out _ _ ⟨((HB.out.cell (World.block_lt_of_cell? w _ hw266_0)).trans hw266_0), ((HB.out.cell (World.block_lt_of_cell? w _ hw266_1)).trans hw266_1), ((HB.out.cell (World.block_lt_of_cell? w _ hw266_2)).trans hw266_2), ((HB.out.cell (World.block_lt_of_cell? w _ hw271_0)).trans hw271_0), ((HB.out.cell (World.block_lt_of_cell? w _ hw271_1)).trans hw271_1), ((HB.out.cell (World.block_lt_of_cell? w _ hw271_2)).trans hw271_2)⟩ (fun hHeld => ?_)
        clear hK K
        refine norm_ (a' := ?_) ?_ ?_
        rotate_left
        ·show Act.put _ (some 40) _ = _
         simp only [Act.put, sI_, s0_, sS_, i64_w, i32_w]
         rfl
        refine pu_ 31 41 (w_ 33 4294967295) rfl HT_ ?_
        refine pu_ 32 42 (w_ 33 8589934591) rfl HT_ ?_
        refine done_ (done_of HT_.out (by kernel_rfl)) ?_
        try go_wp2
        go_meet
        case rel => exact ⟨_, (!t272), sd_, H', ⟨by have := HK1.out; first | omega | exact Nat.le_refl _⟩, ⟨by repeat (first | (with_reducible first | exact HB.out | apply below_alloc | apply pw_below_drewN | apply below_drew1) | exact HB.out)⟩⟩
     ·rw [if_neg c4] at H
      exact absurd H (by simp)
    case rest =>
     clear HC3
     try clear c1
     try clear p2
     try clear q2
     try clear hx2
     try clear c4
     try clear c7
     try clear c7b0
     try clear c8
     try clear c9
     try clear c10
     try clear hx266_0
     try clear hx266_1
     try clear hx266_2
     try clear hx267_0
     try clear hx267_1
     try clear hx267_2
     try clear hx268_0
     try clear hx268_1
     try clear hx268_2
     try clear hx269_0
     try clear hx269_1
     try clear hx269_2
     try clear hx271_0
     try clear hx271_1
     try clear hx271_2
     try clear p266
     try clear p267
     try clear p268
     try clear p269
     try clear p271
     try clear q266
     try clear q267
     try clear q268
     try clear q269
     try clear q271
     obtain ⟨kq, x42_2, rfl, HA, HJ2, HB⟩ := hcut
     cases kq with
     | zero => exact absurd HA.out (by simp [cohousingref28_Valid.j1])
     | succ kj2 =>
      have H := HA.out
      clear HA
      simp only [cohousingref28_Valid.j1] at H
      by_cases c17 : x42_2 = true
      ·subst c17
       have H1 : (some false) = some r := by rw [if_pos rfl] at H; exact H
       clear H
       have H := H1
       clear H1
       obtain rfl := Option.some.inj H
       go_wp2
       go_ret
       exact ⟨ew_, by repeat (first | (with_reducible first | exact HB.out | apply below_alloc | apply pw_below_drewN | apply below_drew1) | exact HB.out)⟩
      ·replace c17 := Bool.eq_false_iff.mpr c17
       subst c17
       have H1 : (if 0 ≤ x3_1 then (if x3_1 < (l0.length : Int) then (if ((rd_T63 l0 x3_1).f1) = 0 then (cohousingref28_Valid.l0 kj2 l0 (wrap64 (x3_1 + 1))) else (if x3_1 ≤ (l0.length : Int) then ((cohousingref28_At.f kj2 (l0.take (x3_1 : Int).toNat) ((rd_T63 l0 x3_1).f1)).bind fun t279 => (if t279 < 0 then (some false) else (cohousingref28_Valid.l0 kj2 l0 (wrap64 (x3_1 + 1))))) else (none))) else (none)) else (none)) = some r := by rw [if_neg (show ¬ (false = true) by decide)] at H; exact H
       clear H
       have H := H1
       clear H1
       by_cases c18 : 0 ≤ x3_1
       ·rw [if_pos c18] at H
        have c18b0 : decide (0 ≤ x3_1) = true := decide_eq_true c18
        clear c18
        by_cases c19 : x3_1 < (l0.length : Int)
        ·rw [if_pos c19] at H
         have c19b0 : decide (x3_1 < (l0.length : Int)) = true := decide_eq_true c19
         clear c19
         by_cases c20 : ((rd_T63 l0 x3_1).f1) = 0
         ·rw [if_pos c20] at H
          have c20b0 : (((rd_T63 l0 x3_1).f1) == 0) = true := beq_iff_eq.mpr c20
          have c20b1 : (((rd_T63 l0 x3_1).f1) != 0) = false := bne_eq_false_iff_eq.mpr c20
          clear c20
          have H' := Aside0.mk H
          clear H
          try go_wp2
          have n0_ := Aside0.mk (below_drew1 HB.out)
          clear HB
          have HB := n0_
          clear n0_
          have p273 : 0 ≤ (x3_1 : Int) := od_
          have q273 : x3_1 < (l0.length : Int) := od_
          obtain ⟨ad273, e273, hx273_0, hx273_1, hx273_2⟩ := at_T63 HR0.out x3_1 p273 q273
          have hw273_2 := hx273_2
          have hw273_1 := hx273_1
          have hw273_0 := hx273_0
          cases e273
          replace hx273_0 := (HB.out.cell (World.block_lt_of_cell? w _ hx273_0)).trans hx273_0
          replace hx273_1 := (HB.out.cell (World.block_lt_of_cell? w _ hx273_1)).trans hx273_1
          replace hx273_2 := (HB.out.cell (World.block_lt_of_cell? w _ hx273_2)).trans hx273_2
          replace p273 := eq_true p273
          replace q273 := eq_true q273
          refine start_ (n := 18) (S := fun w' => w'.cell? (ad273.add ((x3_1).toNat * 3)) = some (.int .i64 ((rd_T63 l0 x3_1).f0)) ∧ w'.cell? ⟨(ad273.add ((x3_1).toNat * 3)).block, (ad273.add ((x3_1).toNat * 3)).off + 1, none⟩ = some (.int .i64 ((rd_T63 l0 x3_1).f1)) ∧ w'.cell? ⟨(ad273.add ((x3_1).toNat * 3)).block, (ad273.add ((x3_1).toNat * 3)).off + 2, none⟩ = some (.int .i64 ((rd_T63 l0 x3_1).f2))) (ds := []) #[n_, n_, n_, n_, n_, n_, n_, n_, n_, n_, n_, n_, n_, n_, n_, n_, n_, n_] (by kernel_rfl) rfl rfl ⟨((HB.out.cell (World.block_lt_of_cell? w _ hw273_0)).trans hw273_0), ((HB.out.cell (World.block_lt_of_cell? w _ hw273_1)).trans hw273_1), ((HB.out.cell (World.block_lt_of_cell? w _ hw273_2)).trans hw273_2)⟩ (fun hHeld => ?_); refine with_tabW cohousingref28_Valid.tab6 cohousingref28_Valid.bits6 (fun HT_ HW_ => ?_)
          generalize wc.drew = w21 at HB hx273_0 hx273_1 hx273_2 hHeld ⊢
          refine pu_ 0 43 (w_ 18 1) rfl HT_ ?_
          refine pu_ 1 44 (w_ 18 3) rfl HT_ ?_
          refine pu_ 2 45 (w_ 18 7) rfl HT_ ?_
          refine pu_ 3 46 (w_ 18 15) rfl HT_ ?_
          refine ta_ 4 47 (w_ 18 31) rfl HT_ HW_ hHeld (by rintro w' ⟨s0, s1, s2⟩; go_simp; with_reducible rfl) ?_
          refine pu_ 5 48 (w_ 18 63) rfl HT_ ?_
          refine pu_ 6 49 (w_ 18 127) rfl HT_ ?_
          refine pn_ 7 50 (w_ 18 255) rfl HT_ ?_
          refine pn_ 8 51 (w_ 18 511) rfl HT_ ?_
          refine pn_ 9 52 (w_ 18 1023) rfl HT_ ?_
          refine pn_ 10 53 (w_ 18 2047) rfl HT_ ?_
          refine pn_ 11 54 (w_ 18 4095) rfl HT_ ?_
          refine pn_ 12 55 (w_ 18 8191) rfl HT_ ?_
          refine pn_ 13 56 (w_ 18 16383) rfl HT_ ?_
          refine pn_ 14 57 (w_ 18 32767) rfl HT_ ?_
          refine pn_ 15 58 (w_ 18 65535) rfl HT_ ?_
          refine pn_ 16 59 (w_ 18 131071) rfl HT_ ?_
          refine pu_ 17 60 (w_ 18 262143) rfl HT_ ?_
          refine done_ (done_of HT_.out (by kernel_rfl)) ?_
          try go_wp2
          go_roundg kj2
          case measure => have := HK1.out; have := HJ2.out; omega
          case rel => exact ⟨(wrap64 (x3_1 + 1)), sd_, H', ⟨by have := HK1.out; have := HJ2.out; omega⟩, ⟨by repeat (first | (with_reducible first | exact HB.out | apply below_alloc | apply pw_below_drewN | apply below_drew1) | exact HB.out)⟩⟩
         ·rw [if_neg c20] at H
          have c20b0 : (((rd_T63 l0 x3_1).f1) == 0) = false := beq_eq_false_iff_ne.mpr c20
          have c20b1 : (((rd_T63 l0 x3_1).f1) != 0) = true := bne_iff_ne.mpr c20
          have c22b0 := eq_true (od_ : 0 ≤ x3_1)
          by_cases c23 : x3_1 ≤ (l0.length : Int)
          ·rw [if_pos c23] at H
           have c23b0 := eq_true c23
           have c23b1 : decide (x3_1 ≤ (l0.length : Int)) = true := decide_eq_true c23
           clear c23
           obtain ⟨y274, hy274⟩ : ∃ y_ : List (S63), y_ = (l0.take (x3_1 : Int).toNat) := ⟨_, rfl⟩
           replace H : ((cohousingref28_At.f kj2 y274 ((rd_T63 l0 x3_1).f1)).bind fun t279 => (if t279 < 0 then (some false) else (cohousingref28_Valid.l0 kj2 l0 (wrap64 (x3_1 + 1))))) = some r := by first | (rw [hy274]; with_reducible exact H) | (have H2_ := (Option.bind_some _ _).symm.trans H; rw [hy274]; with_reducible exact H2_) | (have H2_ := (Option.bind_some _ _).symm.trans H; with_reducible exact H2_) | with_reducible exact H | (rw [hy274]; exact H) | exact H
           have Ny274 := Aside0.mk hy274
           clear hy274
           replace H := Option.bind_eq_some_iff.mp H
           obtain ⟨t279, A240, H⟩ := H
           replace H : (if t279 < 0 then (some false) else (cohousingref28_Valid.l0 kj2 l0 (wrap64 (x3_1 + 1)))) = some r := H
           have A24 := Aside0.mk A240
           clear A240
           by_cases c25 : t279 < 0
           ·rw [if_pos c25] at H
            have c25b0 : decide (t279 < 0) = true := decide_eq_true c25
            clear c25
            obtain rfl := Option.some.inj H
            try go_wp2
            have n0_ := Aside0.mk (below_drew1 HB.out)
            clear HB
            have HB := n0_
            clear n0_
            have p273 : 0 ≤ (x3_1 : Int) := od_
            have q273 : x3_1 < (l0.length : Int) := od_
            obtain ⟨ad273, e273, hx273_0, hx273_1, hx273_2⟩ := at_T63 HR0.out x3_1 p273 q273
            have hw273_2 := hx273_2
            have hw273_1 := hx273_1
            have hw273_0 := hx273_0
            cases e273
            replace hx273_0 := (HB.out.cell (World.block_lt_of_cell? w _ hx273_0)).trans hx273_0
            replace hx273_1 := (HB.out.cell (World.block_lt_of_cell? w _ hx273_1)).trans hx273_1
            replace hx273_2 := (HB.out.cell (World.block_lt_of_cell? w _ hx273_2)).trans hx273_2
            replace p273 := eq_true p273
            replace q273 := eq_true q273
            have q27 : (x3_1 : Int) ≤ ((l0.length : Int) : Int) := od_
            obtain ⟨i027, hi027, _, hsz27, _⟩ := info_parts info63
            have hroom27 : l0.length ≤ c0 := HC0.out
            have hC27 : Kd.C k63 _ (some ad273) l0.length l0 := HR0.out
            have hcut27 := cut_to (P := Try.prog) 22 63 .i64 Try.underlying22 hi027 (some ad273) l0.length c0 x3_1 (od_) q27 hroom27
            have hr27 := Kd.C_take (m := (x3_1 : Int).toNat) hC27 (by omega)
            have hy27 : y274.length = (x3_1 : Int).toNat := (by rw [Ny274.out, List.length_take]; omega)
            rw [← Ny274.out] at hr27
            rw [← hy27] at hcut27
            have HR277 := Aside0.mk hr27
            have HC277 := Aside0.mk (show y274.length ≤ c0 from by omega)
            clear hr27 hC27 hroom27 hi027 hsz27
            have KY27 := Aside0.mk hy27
            clear hy27
            replace q27 := eq_true q27
            have p278 : 0 ≤ (x3_1 : Int) := od_
            have q278 : x3_1 < (l0.length : Int) := od_
            obtain ⟨ad278, e278, hx278_0, hx278_1, hx278_2⟩ := at_T63 HR0.out x3_1 p278 q278
            have hw278_2 := hx278_2
            have hw278_1 := hx278_1
            have hw278_0 := hx278_0
            obtain rfl : ad273 = ad278 := (by injection e278)
            replace hx278_0 := (HB.out.cell (World.block_lt_of_cell? w _ hx278_0)).trans hx278_0
            replace hx278_1 := (HB.out.cell (World.block_lt_of_cell? w _ hx278_1)).trans hx278_1
            replace hx278_2 := (HB.out.cell (World.block_lt_of_cell? w _ hx278_2)).trans hx278_2
            replace p278 := eq_true p278
            replace q278 := eq_true q278
            refine start_ (n := 18) (S := fun w' => w'.cell? (ad273.add ((x3_1).toNat * 3)) = some (.int .i64 ((rd_T63 l0 x3_1).f0)) ∧ w'.cell? ⟨(ad273.add ((x3_1).toNat * 3)).block, (ad273.add ((x3_1).toNat * 3)).off + 1, none⟩ = some (.int .i64 ((rd_T63 l0 x3_1).f1)) ∧ w'.cell? ⟨(ad273.add ((x3_1).toNat * 3)).block, (ad273.add ((x3_1).toNat * 3)).off + 2, none⟩ = some (.int .i64 ((rd_T63 l0 x3_1).f2)) ∧ w'.cell? (ad273.add ((x3_1).toNat * 3)) = some (.int .i64 ((rd_T63 l0 x3_1).f0)) ∧ w'.cell? ⟨(ad273.add ((x3_1).toNat * 3)).block, (ad273.add ((x3_1).toNat * 3)).off + 1, none⟩ = some (.int .i64 ((rd_T63 l0 x3_1).f1)) ∧ w'.cell? ⟨(ad273.add ((x3_1).toNat * 3)).block, (ad273.add ((x3_1).toNat * 3)).off + 2, none⟩ = some (.int .i64 ((rd_T63 l0 x3_1).f2))) (ds := []) #[n_, n_, n_, n_, n_, n_, n_, n_, n_, n_, n_, n_, n_, n_, n_, n_, n_, n_] (by kernel_rfl) rfl rfl ⟨((HB.out.cell (World.block_lt_of_cell? w _ hw273_0)).trans hw273_0), ((HB.out.cell (World.block_lt_of_cell? w _ hw273_1)).trans hw273_1), ((HB.out.cell (World.block_lt_of_cell? w _ hw273_2)).trans hw273_2), ((HB.out.cell (World.block_lt_of_cell? w _ hw278_0)).trans hw278_0), ((HB.out.cell (World.block_lt_of_cell? w _ hw278_1)).trans hw278_1), ((HB.out.cell (World.block_lt_of_cell? w _ hw278_2)).trans hw278_2)⟩ (fun hHeld => ?_); refine with_tabW cohousingref28_Valid.tab6 cohousingref28_Valid.bits6 (fun HT_ HW_ => ?_)
            generalize wc.drew = w26 at HB HR277 hx273_0 hx273_1 hx273_2 hx278_0 hx278_1 hx278_2 hHeld ⊢
            refine pu_ 0 43 (w_ 18 1) rfl HT_ ?_
            refine pu_ 1 44 (w_ 18 3) rfl HT_ ?_
            refine pu_ 2 45 (w_ 18 7) rfl HT_ ?_
            refine pu_ 3 46 (w_ 18 15) rfl HT_ ?_
            refine ta_ 4 47 (w_ 18 31) rfl HT_ HW_ hHeld (by rintro w' ⟨s0, s1, s2, s3, s4, s5⟩; go_simp; with_reducible rfl) ?_
            refine pu_ 5 48 (w_ 18 63) rfl HT_ ?_
            refine pu_ 6 49 (w_ 18 127) rfl HT_ ?_
            refine pu_ 7 50 (w_ 18 255) rfl HT_ ?_
            refine pu_ 8 51 (w_ 18 511) rfl HT_ ?_
            refine pu_ 9 52 (w_ 18 1023) rfl HT_ ?_
            refine pu_ 10 53 (w_ 18 2047) rfl HT_ ?_
            refine pu_ 11 54 (w_ 18 4095) rfl HT_ ?_
            refine pu_ 12 55 (w_ 18 8191) rfl HT_ ?_
            refine pu_ 13 56 (w_ 18 16383) rfl HT_ ?_
            refine ta_ 14 57 (w_ 18 32767) rfl HT_ HW_ hHeld (by rintro w' ⟨s0, s1, s2, s3, s4, s5⟩; go_simp; with_reducible rfl) ?_
            refine one_ (i := 15) (N := some 58) (w_ 18 65535) rfl rfl (one_of HT_.out (by kernel_rfl)) (by decide) (fun K hK => ?_)
            refine goes_ Try.func86 (by kernel_rfl) rfl #[.slice (some ad273) y274.length c0, .int .i64 ((rd_T63 l0 x3_1).f1)] (by rfl) rfl rfl (by (try simp only [List.map_toArray, List.map_cons, List.map_nil]); first | done | rfl | (simp only [List.length_drop, List.length_take]; rfl)) ?_
            with_reducible refine (cohousingref28_At.calls kj2 _ _ y274 ((rd_T63 l0 x3_1).f1) t279 _ ?side1 ?side2 A24.out).mono ?_
            (case side1 => exact cc_ ((Kd.C_below HR277.out HB.out)))
            (case side2 => exact HC277.out)
            rintro e w' ⟨rfl, ⟨nd, rfl⟩⟩
            refine ⟨_, rfl, ?_⟩
            refine hK.out _ _ ⟨((HB.out.cell (World.block_lt_of_cell? w _ hw273_0)).trans hw273_0), ((HB.out.cell (World.block_lt_of_cell? w _ hw273_1)).trans hw273_1), ((HB.out.cell (World.block_lt_of_cell? w _ hw273_2)).trans hw273_2), ((HB.out.cell (World.block_lt_of_cell? w _ hw278_0)).trans hw278_0), ((HB.out.cell (World.block_lt_of_cell? w _ hw278_1)).trans hw278_1), ((HB.out.cell (World.block_lt_of_cell? w _ hw278_2)).trans hw278_2)⟩ (fun hHeld => ?_)
            clear hK K
            refine norm_ (a' := ?_) ?_ ?_
            rotate_left
            ·show Act.put _ (some 58) _ = _
             simp only [Act.put, sI_, s0_, sS_, i64_w, i32_w]
             rfl
            refine pu_ 16 59 (w_ 18 131071) rfl HT_ ?_
            refine pu_ 17 60 (w_ 18 262143) rfl HT_ ?_
            refine done_ (done_of HT_.out (by kernel_rfl)) ?_
            try go_wp2
            go_ret
            exact ⟨ew_, by repeat (first | (with_reducible first | exact HB.out | apply below_alloc | apply pw_below_drewN | apply below_drew1) | exact HB.out)⟩
           ·rw [if_neg c25] at H
            have c25b0 : decide (t279 < 0) = false := decide_eq_false c25
            clear c25
            have H' := Aside0.mk H
            clear H
            try go_wp2
            have n0_ := Aside0.mk (below_drew1 HB.out)
            clear HB
            have HB := n0_
            clear n0_
            have p273 : 0 ≤ (x3_1 : Int) := od_
            have q273 : x3_1 < (l0.length : Int) := od_
            obtain ⟨ad273, e273, hx273_0, hx273_1, hx273_2⟩ := at_T63 HR0.out x3_1 p273 q273
            have hw273_2 := hx273_2
            have hw273_1 := hx273_1
            have hw273_0 := hx273_0
            cases e273
            replace hx273_0 := (HB.out.cell (World.block_lt_of_cell? w _ hx273_0)).trans hx273_0
            replace hx273_1 := (HB.out.cell (World.block_lt_of_cell? w _ hx273_1)).trans hx273_1
            replace hx273_2 := (HB.out.cell (World.block_lt_of_cell? w _ hx273_2)).trans hx273_2
            replace p273 := eq_true p273
            replace q273 := eq_true q273
            have q29 : (x3_1 : Int) ≤ ((l0.length : Int) : Int) := od_
            obtain ⟨i029, hi029, _, hsz29, _⟩ := info_parts info63
            have hroom29 : l0.length ≤ c0 := HC0.out
            have hC29 : Kd.C k63 _ (some ad273) l0.length l0 := HR0.out
            have hcut29 := cut_to (P := Try.prog) 22 63 .i64 Try.underlying22 hi029 (some ad273) l0.length c0 x3_1 (od_) q29 hroom29
            have hr29 := Kd.C_take (m := (x3_1 : Int).toNat) hC29 (by omega)
            have hy29 : y274.length = (x3_1 : Int).toNat := (by rw [Ny274.out, List.length_take]; omega)
            rw [← Ny274.out] at hr29
            rw [← hy29] at hcut29
            have HR277 := Aside0.mk hr29
            have HC277 := Aside0.mk (show y274.length ≤ c0 from by omega)
            clear hr29 hC29 hroom29 hi029 hsz29
            have KY29 := Aside0.mk hy29
            clear hy29
            replace q29 := eq_true q29
            have p278 : 0 ≤ (x3_1 : Int) := od_
            have q278 : x3_1 < (l0.length : Int) := od_
            obtain ⟨ad278, e278, hx278_0, hx278_1, hx278_2⟩ := at_T63 HR0.out x3_1 p278 q278
            have hw278_2 := hx278_2
            have hw278_1 := hx278_1
            have hw278_0 := hx278_0
            obtain rfl : ad273 = ad278 := (by injection e278)
            replace hx278_0 := (HB.out.cell (World.block_lt_of_cell? w _ hx278_0)).trans hx278_0
            replace hx278_1 := (HB.out.cell (World.block_lt_of_cell? w _ hx278_1)).trans hx278_1
            replace hx278_2 := (HB.out.cell (World.block_lt_of_cell? w _ hx278_2)).trans hx278_2
            replace p278 := eq_true p278
            replace q278 := eq_true q278
            refine start_ (n := 18) (S := fun w' => w'.cell? (ad273.add ((x3_1).toNat * 3)) = some (.int .i64 ((rd_T63 l0 x3_1).f0)) ∧ w'.cell? ⟨(ad273.add ((x3_1).toNat * 3)).block, (ad273.add ((x3_1).toNat * 3)).off + 1, none⟩ = some (.int .i64 ((rd_T63 l0 x3_1).f1)) ∧ w'.cell? ⟨(ad273.add ((x3_1).toNat * 3)).block, (ad273.add ((x3_1).toNat * 3)).off + 2, none⟩ = some (.int .i64 ((rd_T63 l0 x3_1).f2)) ∧ w'.cell? (ad273.add ((x3_1).toNat * 3)) = some (.int .i64 ((rd_T63 l0 x3_1).f0)) ∧ w'.cell? ⟨(ad273.add ((x3_1).toNat * 3)).block, (ad273.add ((x3_1).toNat * 3)).off + 1, none⟩ = some (.int .i64 ((rd_T63 l0 x3_1).f1)) ∧ w'.cell? ⟨(ad273.add ((x3_1).toNat * 3)).block, (ad273.add ((x3_1).toNat * 3)).off + 2, none⟩ = some (.int .i64 ((rd_T63 l0 x3_1).f2))) (ds := []) #[n_, n_, n_, n_, n_, n_, n_, n_, n_, n_, n_, n_, n_, n_, n_, n_, n_, n_] (by kernel_rfl) rfl rfl ⟨((HB.out.cell (World.block_lt_of_cell? w _ hw273_0)).trans hw273_0), ((HB.out.cell (World.block_lt_of_cell? w _ hw273_1)).trans hw273_1), ((HB.out.cell (World.block_lt_of_cell? w _ hw273_2)).trans hw273_2), ((HB.out.cell (World.block_lt_of_cell? w _ hw278_0)).trans hw278_0), ((HB.out.cell (World.block_lt_of_cell? w _ hw278_1)).trans hw278_1), ((HB.out.cell (World.block_lt_of_cell? w _ hw278_2)).trans hw278_2)⟩ (fun hHeld => ?_); refine with_tabW cohousingref28_Valid.tab6 cohousingref28_Valid.bits6 (fun HT_ HW_ => ?_)
            generalize wc.drew = w28 at HB HR277 hx273_0 hx273_1 hx273_2 hx278_0 hx278_1 hx278_2 hHeld ⊢
            refine pu_ 0 43 (w_ 18 1) rfl HT_ ?_
            refine pu_ 1 44 (w_ 18 3) rfl HT_ ?_
            refine pu_ 2 45 (w_ 18 7) rfl HT_ ?_
            refine pu_ 3 46 (w_ 18 15) rfl HT_ ?_
            refine ta_ 4 47 (w_ 18 31) rfl HT_ HW_ hHeld (by rintro w' ⟨s0, s1, s2, s3, s4, s5⟩; go_simp; with_reducible rfl) ?_
            refine pu_ 5 48 (w_ 18 63) rfl HT_ ?_
            refine pu_ 6 49 (w_ 18 127) rfl HT_ ?_
            refine pu_ 7 50 (w_ 18 255) rfl HT_ ?_
            refine pu_ 8 51 (w_ 18 511) rfl HT_ ?_
            refine pu_ 9 52 (w_ 18 1023) rfl HT_ ?_
            refine pu_ 10 53 (w_ 18 2047) rfl HT_ ?_
            refine pu_ 11 54 (w_ 18 4095) rfl HT_ ?_
            refine pu_ 12 55 (w_ 18 8191) rfl HT_ ?_
            refine pu_ 13 56 (w_ 18 16383) rfl HT_ ?_
            refine ta_ 14 57 (w_ 18 32767) rfl HT_ HW_ hHeld (by rintro w' ⟨s0, s1, s2, s3, s4, s5⟩; go_simp; with_reducible rfl) ?_
            refine one_ (i := 15) (N := some 58) (w_ 18 65535) rfl rfl (one_of HT_.out (by kernel_rfl)) (by decide) (fun K hK => ?_)
            refine goes_ Try.func86 (by kernel_rfl) rfl #[.slice (some ad273) y274.length c0, .int .i64 ((rd_T63 l0 x3_1).f1)] (by rfl) rfl rfl (by (try simp only [List.map_toArray, List.map_cons, List.map_nil]); first | done | rfl | (simp only [List.length_drop, List.length_take]; rfl)) ?_
            with_reducible refine (cohousingref28_At.calls kj2 _ _ y274 ((rd_T63 l0 x3_1).f1) t279 _ ?side1 ?side2 A24.out).mono ?_
            (case side1 => exact cc_ ((Kd.C_below HR277.out HB.out)))
            (case side2 => exact HC277.out)
            rintro e w' ⟨rfl, ⟨nd, rfl⟩⟩
            refine ⟨_, rfl, ?_⟩
            refine hK.out _ _ ⟨((HB.out.cell (World.block_lt_of_cell? w _ hw273_0)).trans hw273_0), ((HB.out.cell (World.block_lt_of_cell? w _ hw273_1)).trans hw273_1), ((HB.out.cell (World.block_lt_of_cell? w _ hw273_2)).trans hw273_2), ((HB.out.cell (World.block_lt_of_cell? w _ hw278_0)).trans hw278_0), ((HB.out.cell (World.block_lt_of_cell? w _ hw278_1)).trans hw278_1), ((HB.out.cell (World.block_lt_of_cell? w _ hw278_2)).trans hw278_2)⟩ (fun hHeld => ?_)
            clear hK K
            refine norm_ (a' := ?_) ?_ ?_
            rotate_left
            ·show Act.put _ (some 58) _ = _
             simp only [Act.put, sI_, s0_, sS_, i64_w, i32_w]
             rfl
            refine pu_ 16 59 (w_ 18 131071) rfl HT_ ?_
            refine pu_ 17 60 (w_ 18 262143) rfl HT_ ?_
            refine done_ (done_of HT_.out (by kernel_rfl)) ?_
            try go_wp2
            go_roundg kj2
            case measure => have := HK1.out; have := HJ2.out; omega
            case rel => exact ⟨(wrap64 (x3_1 + 1)), sd_, H', ⟨by have := HK1.out; have := HJ2.out; omega⟩, ⟨by repeat (first | (with_reducible first | exact HB.out | apply below_alloc | apply pw_below_drewN | apply below_drew1) | exact HB.out)⟩⟩
          ·rw [if_neg c23] at H
           exact absurd H (by simp)
        ·rw [if_neg c19] at H
         exact absurd H (by simp)
       ·rw [if_neg c18] at H
        exact absurd H (by simp)
   ·rw [if_neg c2] at H
    have c2b0 : decide (x3_1 < (l0.length : Int)) = false := decide_eq_false c2
    clear c2
    obtain rfl := Option.some.inj H
    go_wp2
    go_ret
    exact ⟨ew_, by repeat (first | (with_reducible first | exact HB.out | apply below_alloc | apply pw_below_drewN | apply below_drew1) | exact HB.out)⟩
end
section
open Go.Proofs.YtbgchacafglcpaaH
theorem volume_f (n : Int) : cohousingref28_Volume.f n = some (decide (0 ≤ n ∧ n ≤ 1000000000)) := by
 unfold cohousingref28_Volume.f
 (repeat' split) <;> simp_all <;> omega
theorem volume_calls {n : Int} {b : Bool} (h : decide (0 ≤ n ∧ n ≤ 1000000000) = b) (w : World) : Calls Try.prog 85 #[.int .i64 n] w fun e w' => e = .returned (.bool b) ∧ Drawn0 w w' := cohousingref28_Volume.calls n b w (by rw [volume_f, h])
def cohousingref28_Belongs.f (l0 : List S63) (l1 : List S38) : Option Bool := if l0.length ≤ 140737488355328 ∧ l1.length ≤ 140737488355328 then some (belongsB l0.length l1) else none
theorem cohousingref28_Belongs.calls (A0 : Option Addr) (c0 : Nat) (l0 : List (S63)) (A1 : Option Addr) (c1 : Nat) (l1 : List (S38)) (r : Bool) (w : World) (hr0 : Kd.C k63 w A0 l0.length l0) (hc0 : l0.length ≤ c0) (hr1 : Kd.C k38 w A1 l1.length l1) (hc1 : l1.length ≤ c1) (h : cohousingref28_Belongs.f l0 l1 = some r) :
  Calls Try.prog 71 #[.slice A0 l0.length c0, .slice A1 l1.length c1] w fun e w' => e = .returned (.bool r) ∧ Below w.heap.size w w' := by
 unfold cohousingref28_Belongs.f at h
 by_cases hsz : l0.length ≤ 140737488355328 ∧ l1.length ≤ 140737488355328
 case neg =>
  rw [if_neg hsz] at h
  cases h
 rw [if_pos hsz] at h
 injection h with h
 subst h
 have HR1 := Aside0.mk hr1
 have HSZ := Aside0.mk hsz
 clear hr0 hr1 hc0 hc1 hsz
 have HB := Aside0.mk (Below.refl w.heap.size w)
 by_cases hl : l1.length = l0.length
 case neg =>
  have d2 : ((l1.length : Int) == (l0.length : Int)) = false := beq_eq_false_iff_ne.2 (by omega)
  have d2' : ((l1.length : Int) != (l0.length : Int)) = true := bne_iff_ne.2 (by omega)
  have HF := Aside0.mk (show belongsB l0.length l1 = false by unfold belongsB; rw [decide_eq_false hl]; rfl)
  clear hl
  go_enter Try.func71, Try.ntmps71
  go_wp2
  go_ret
  exact ⟨by rw [HF.out]; rfl, HB.out⟩
 have d2 : ((l1.length : Int) == (l0.length : Int)) = true := beq_iff_eq.2 (by omega)
 have d2' : ((l1.length : Int) != (l0.length : Int)) = false := by rw [bne, d2]; rfl
 have HL := Aside0.mk hl
 clear hl
 go_enter Try.func71, Try.ntmps71
 go_wp2
 go_loopg [5] l1.length (fun kq v5 wr => ∃ (n : Nat), v5 = .int .i64 n ∧ Aside0 (kq + n = l1.length) ∧ Aside0 (∀ j : Nat, j < n → oddR (rd_T38 l1 j) = false) ∧ Aside0 (Below w.heap.size w wr))
 case atStart => exact ⟨0, rfl, ⟨by omega⟩, ⟨fun j hj => absurd hj (Nat.not_lt_zero _)⟩, HB⟩
 case round =>
  clear HB
  obtain ⟨n, rfl, HM, HOK, HB⟩ := hrel
  by_cases hlt : n < l1.length
  case neg =>
   have q2' : decide ((n : Int) < (l1.length : Int)) = false := decide_eq_false (by omega)
   have q2'' : decide (n < l1.length) = false := decide_eq_false hlt
   have HF := Aside0.mk (show belongsB l0.length l1 = true by
    unfold belongsB
    rw [decide_eq_true HL.out, Bool.true_and, show l1.any oddR = false from ?_]
    ·rfl
    ·rw [List.any_eq_false]
     intro x hx
     obtain ⟨j, hj, rfl⟩ := List.mem_iff_getElem.1 hx
     have := HOK.out j (by have := HM.out; omega)
     simp only [rd_T38, Int.toNat_natCast, List.getD_eq_getElem?_getD, List.getElem?_eq_getElem hj, Option.getD_some] at this
     rw [this]
     decide)
   clear hlt
   go_wp2
   go_ret
   exact ⟨by rw [HF.out]; rfl, HB.out⟩
  obtain ⟨i, hi⟩ : ∃ i : Int, i = (n : Int) := ⟨_, rfl⟩
  rw [← hi]
  have HI2 := Aside0.mk (show 0 ≤ i ∧ i < l1.length ∧ i = (n : Int) from ⟨by omega, by omega, hi⟩)
  have q2' : decide (i < (l1.length : Int)) = true := decide_eq_true HI2.out.2.1
  have ci2 : (0 ≤ i) = True := eq_true HI2.out.1
  have ci3 : (i < l1.length) = True := eq_true HI2.out.2.1
  obtain ⟨ad, ea, hx0, hx1⟩ := at_T38 (Kd.C_below HR1.out HB.out.drew) i HI2.out.1 HI2.out.2.1
  subst ea
  have HBAD : oddR (rd_T38 l1 i) = true → belongsB l0.length l1 = false := fun hb => by
   unfold belongsB
   have : l1.any oddR = true := by
    rw [List.any_eq_true]
    refine ⟨l1[n], List.getElem_mem hlt, ?_⟩
    have e : i.toNat = n := by have := HI2.out; omega
    simp only [rd_T38, e, List.getD_eq_getElem?_getD, List.getElem?_eq_getElem hlt, Option.getD_some] at hb
    exact hb
   rw [this, Bool.not_true, Bool.and_false]
  have HBD := Aside0.mk HBAD
  obtain ⟨x0, hx0e⟩ : ∃ x0, x0 = (rd_T38 l1 i).f0 := ⟨_, rfl⟩
  obtain ⟨x1, hx1e⟩ : ∃ x1, x1 = (rd_T38 l1 i).f1 := ⟨_, rfl⟩
  rw [← hx0e] at hx0
  rw [← hx1e] at hx1
  have hodd : oddR (rd_T38 l1 i) = decide (¬ (0 ≤ x0 ∧ x0 ≤ 1000000000 ∧ 0 ≤ x1 ∧ x1 ≤ 1000000000 ∧ x0 ≤ x1)) := by unfold oddR; rw [hx0e, hx1e]
  have HODD := Aside0.mk hodd
  have HNI := Aside0.mk (show rd_T38 l1 i = rd_T38 l1 (n : Nat) by rw [hi])
  clear hlt hi hx0e hx1e HBAD hodd
  by_cases v0 : 0 ≤ x0 ∧ x0 ≤ 1000000000
  case neg =>
   have HV0 := Aside0.mk (decide_eq_false v0)
   have HF := Aside0.mk (show belongsB l0.length l1 = false from HBD.out (by rw [HODD.out]; exact decide_eq_true (fun h => v0 ⟨h.1, h.2.1⟩)))
   clear v0
   go_wp2
   refine start_ (n := 29) (S := fun w' => w'.cell? (ad.add (i.toNat * 2)) = some (.int .i64 x0) ∧ w'.cell? ⟨(ad.add (i.toNat * 2)).block, (ad.add (i.toNat * 2)).off + 1, none⟩ = some (.int .i64 x1)) (ds := []) #[n_, n_, n_, n_, n_, n_, n_, n_, n_, n_, n_, n_, n_, n_, n_, n_, n_, n_, n_, n_, n_, n_, n_, n_, n_, n_, n_, n_, n_] (by kernel_rfl) rfl rfl ⟨hx0, hx1⟩ (fun hHeld => ?_)
   refine pv_ 0 17 (w_ 29 1) rfl ?_
   refine pv_ 1 18 (w_ 29 3) rfl ?_
   refine pv_ 2 19 (w_ 29 7) rfl ?_
   refine pv_ 3 20 (w_ 29 15) rfl ?_
   refine tb_ 4 21 (w_ 29 31) rfl hHeld (by rintro w' ⟨s0, s1⟩; go_simp; with_reducible rfl) ?_
   refine one_ (i := 5) (N := some 22) (w_ 29 63) rfl rfl (by kernel_rfl) (by decide) (fun K hK => ?_)
   refine goes_ Try.func85 (by kernel_rfl) rfl #[.int .i64 x0] (by rfl) rfl rfl (by simp only [List.map_toArray, List.map_cons, List.map_nil]; rfl) ?_
   with_reducible refine (volume_calls HV0.out _).mono ?_
   rintro e w3 ⟨rfl, hdr⟩
   refine ⟨_, rfl, ?_⟩
   have hb := hdr.below
   have HBF := Aside0.mk (below_step (below_drew (Below.refl _ _)) hb)
   refine hK.out _ _ ⟨(hb.cell (World.block_lt_of_cell? _ _ hHeld.1)).trans hHeld.1, (hb.cell (World.block_lt_of_cell? _ _ hHeld.2)).trans hHeld.2⟩ (fun hHeld => ?_)
   clear hK K
   refine norm_ (a' := ?_) ?_ ?_
   rotate_left
   ·show Act.put _ (some 22) _ = _
    simp only [Act.put, sI_, s0_, sS_, i64_w, i32_w]
    rfl
   refine pv_ 6 23 (w_ 29 127) rfl ?_
   refine pv_ 7 24 (w_ 29 255) rfl ?_
   refine po_ 8 25 (w_ 29 511) rfl ?_
   refine po_ 9 26 (w_ 29 1023) rfl ?_
   refine po_ 10 27 (w_ 29 2047) rfl ?_
   refine po_ 11 28 (w_ 29 4095) rfl ?_
   refine po_ 12 29 (w_ 29 8191) rfl ?_
   refine po_ 13 30 (w_ 29 16383) rfl ?_
   refine po_ 14 31 (w_ 29 32767) rfl ?_
   refine pv_ 15 32 (w_ 29 65535) rfl ?_
   refine pv_ 16 33 (w_ 29 131071) rfl ?_
   refine po_ 17 34 (w_ 29 262143) rfl ?_
   refine po_ 18 35 (w_ 29 524287) rfl ?_
   refine po_ 19 36 (w_ 29 1048575) rfl ?_
   refine po_ 20 37 (w_ 29 2097151) rfl ?_
   refine po_ 21 38 (w_ 29 4194303) rfl ?_
   refine po_ 22 39 (w_ 29 8388607) rfl ?_
   refine po_ 23 40 (w_ 29 16777215) rfl ?_
   refine po_ 24 41 (w_ 29 33554431) rfl ?_
   refine po_ 25 42 (w_ 29 67108863) rfl ?_
   refine po_ 26 43 (w_ 29 134217727) rfl ?_
   refine po_ 27 44 (w_ 29 268435455) rfl ?_
   refine pv_ 28 45 (w_ 29 536870911) rfl ?_
   refine done_ (by kernel_rfl) ?_
   go_wp2
   go_ret
   exact ⟨by rw [HF.out]; rfl, HB.out.trans (HBF.out.mono HB.out.size)⟩
  have HV0 := Aside0.mk (decide_eq_true v0)
  by_cases v1 : 0 ≤ x1 ∧ x1 ≤ 1000000000
  case neg =>
   have HV1 := Aside0.mk (decide_eq_false v1)
   have HF := Aside0.mk (show belongsB l0.length l1 = false from HBD.out (by rw [HODD.out]; exact decide_eq_true (fun h => v1 ⟨h.2.2.1, h.2.2.2.1⟩)))
   clear v0 v1
   go_wp2
   refine start_ (n := 29) (S := fun w' => w'.cell? (ad.add (i.toNat * 2)) = some (.int .i64 x0) ∧ w'.cell? ⟨(ad.add (i.toNat * 2)).block, (ad.add (i.toNat * 2)).off + 1, none⟩ = some (.int .i64 x1)) (ds := []) #[n_, n_, n_, n_, n_, n_, n_, n_, n_, n_, n_, n_, n_, n_, n_, n_, n_, n_, n_, n_, n_, n_, n_, n_, n_, n_, n_, n_, n_] (by kernel_rfl) rfl rfl ⟨hx0, hx1⟩ (fun hHeld => ?_)
   refine pv_ 0 17 (w_ 29 1) rfl ?_
   refine pv_ 1 18 (w_ 29 3) rfl ?_
   refine pv_ 2 19 (w_ 29 7) rfl ?_
   refine pv_ 3 20 (w_ 29 15) rfl ?_
   refine tb_ 4 21 (w_ 29 31) rfl hHeld (by rintro w' ⟨s0, s1⟩; go_simp; with_reducible rfl) ?_
   refine one_ (i := 5) (N := some 22) (w_ 29 63) rfl rfl (by kernel_rfl) (by decide) (fun K hK => ?_)
   refine goes_ Try.func85 (by kernel_rfl) rfl #[.int .i64 x0] (by rfl) rfl rfl (by simp only [List.map_toArray, List.map_cons, List.map_nil]; rfl) ?_
   with_reducible refine (volume_calls HV0.out _).mono ?_
   rintro e w3 ⟨rfl, hdr⟩
   refine ⟨_, rfl, ?_⟩
   have hb := hdr.below
   have HB1 := Aside0.mk (below_step (below_drew (Below.refl _ _)) hb)
   refine hK.out _ _ ⟨(hb.cell (World.block_lt_of_cell? _ _ hHeld.1)).trans hHeld.1, (hb.cell (World.block_lt_of_cell? _ _ hHeld.2)).trans hHeld.2⟩ (fun hHeld => ?_)
   clear hK K
   refine norm_ (a' := ?_) ?_ ?_
   rotate_left
   ·show Act.put _ (some 22) _ = _
    simp only [Act.put, sI_, s0_, sS_, i64_w, i32_w]
    rfl
   refine pv_ 6 23 (w_ 29 127) rfl ?_
   refine pv_ 7 24 (w_ 29 255) rfl ?_
   refine pv_ 8 25 (w_ 29 511) rfl ?_
   refine pv_ 9 26 (w_ 29 1023) rfl ?_
   refine pv_ 10 27 (w_ 29 2047) rfl ?_
   refine pv_ 11 28 (w_ 29 4095) rfl ?_
   refine tb_ 12 29 (w_ 29 8191) rfl hHeld (by rintro w' ⟨s0, s1⟩; go_simp; with_reducible rfl) ?_
   refine one_ (i := 13) (N := some 30) (w_ 29 16383) rfl rfl (by kernel_rfl) (by decide) (fun K hK => ?_)
   refine goes_ Try.func85 (by kernel_rfl) rfl #[.int .i64 x1] (by rfl) rfl rfl (by simp only [List.map_toArray, List.map_cons, List.map_nil]; rfl) ?_
   with_reducible refine (volume_calls HV1.out _).mono ?_
   rintro e w3 ⟨rfl, hdr⟩
   refine ⟨_, rfl, ?_⟩
   have hb := hdr.below
   have HBF := Aside0.mk (below_step HB1.out hb)
   refine hK.out _ _ ⟨(hb.cell (World.block_lt_of_cell? _ _ hHeld.1)).trans hHeld.1, (hb.cell (World.block_lt_of_cell? _ _ hHeld.2)).trans hHeld.2⟩ (fun hHeld => ?_)
   clear hK K
   refine norm_ (a' := ?_) ?_ ?_
   rotate_left
   ·show Act.put _ (some 30) _ = _
    simp only [Act.put, sI_, s0_, sS_, i64_w, i32_w]
    rfl
   refine pv_ 14 31 (w_ 29 32767) rfl ?_
   refine pv_ 15 32 (w_ 29 65535) rfl ?_
   refine pv_ 16 33 (w_ 29 131071) rfl ?_
   refine po_ 17 34 (w_ 29 262143) rfl ?_
   refine po_ 18 35 (w_ 29 524287) rfl ?_
   refine po_ 19 36 (w_ 29 1048575) rfl ?_
   refine po_ 20 37 (w_ 29 2097151) rfl ?_
   refine po_ 21 38 (w_ 29 4194303) rfl ?_
   refine po_ 22 39 (w_ 29 8388607) rfl ?_
   refine po_ 23 40 (w_ 29 16777215) rfl ?_
   refine po_ 24 41 (w_ 29 33554431) rfl ?_
   refine po_ 25 42 (w_ 29 67108863) rfl ?_
   refine po_ 26 43 (w_ 29 134217727) rfl ?_
   refine po_ 27 44 (w_ 29 268435455) rfl ?_
   refine pv_ 28 45 (w_ 29 536870911) rfl ?_
   refine done_ (by kernel_rfl) ?_
   go_wp2
   go_ret
   exact ⟨by rw [HF.out]; rfl, HB.out.trans (HBF.out.mono HB.out.size)⟩
  have HV1 := Aside0.mk (decide_eq_true v1)
  by_cases v2 : x1 < x0
  ·have t2 : decide (x1 < x0) = true := decide_eq_true v2
   have HF := Aside0.mk (show belongsB l0.length l1 = false from HBD.out (by rw [HODD.out]; exact decide_eq_true (fun h => by omega)))
   clear v0 v1 v2
   go_wp2
   refine start_ (n := 29) (S := fun w' => w'.cell? (ad.add (i.toNat * 2)) = some (.int .i64 x0) ∧ w'.cell? ⟨(ad.add (i.toNat * 2)).block, (ad.add (i.toNat * 2)).off + 1, none⟩ = some (.int .i64 x1)) (ds := []) #[n_, n_, n_, n_, n_, n_, n_, n_, n_, n_, n_, n_, n_, n_, n_, n_, n_, n_, n_, n_, n_, n_, n_, n_, n_, n_, n_, n_, n_] (by kernel_rfl) rfl rfl ⟨hx0, hx1⟩ (fun hHeld => ?_)
   refine pv_ 0 17 (w_ 29 1) rfl ?_
   refine pv_ 1 18 (w_ 29 3) rfl ?_
   refine pv_ 2 19 (w_ 29 7) rfl ?_
   refine pv_ 3 20 (w_ 29 15) rfl ?_
   refine tb_ 4 21 (w_ 29 31) rfl hHeld (by rintro w' ⟨s0, s1⟩; go_simp; with_reducible rfl) ?_
   refine one_ (i := 5) (N := some 22) (w_ 29 63) rfl rfl (by kernel_rfl) (by decide) (fun K hK => ?_)
   refine goes_ Try.func85 (by kernel_rfl) rfl #[.int .i64 x0] (by rfl) rfl rfl (by simp only [List.map_toArray, List.map_cons, List.map_nil]; rfl) ?_
   with_reducible refine (volume_calls HV0.out _).mono ?_
   rintro e w3 ⟨rfl, hdr⟩
   refine ⟨_, rfl, ?_⟩
   have hb := hdr.below
   have HB1 := Aside0.mk (below_step (below_drew (Below.refl _ _)) hb)
   refine hK.out _ _ ⟨(hb.cell (World.block_lt_of_cell? _ _ hHeld.1)).trans hHeld.1, (hb.cell (World.block_lt_of_cell? _ _ hHeld.2)).trans hHeld.2⟩ (fun hHeld => ?_)
   clear hK K
   refine norm_ (a' := ?_) ?_ ?_
   rotate_left
   ·show Act.put _ (some 22) _ = _
    simp only [Act.put, sI_, s0_, sS_, i64_w, i32_w]
    rfl
   refine pv_ 6 23 (w_ 29 127) rfl ?_
   refine pv_ 7 24 (w_ 29 255) rfl ?_
   refine pv_ 8 25 (w_ 29 511) rfl ?_
   refine pv_ 9 26 (w_ 29 1023) rfl ?_
   refine pv_ 10 27 (w_ 29 2047) rfl ?_
   refine pv_ 11 28 (w_ 29 4095) rfl ?_
   refine tb_ 12 29 (w_ 29 8191) rfl hHeld (by rintro w' ⟨s0, s1⟩; go_simp; with_reducible rfl) ?_
   refine one_ (i := 13) (N := some 30) (w_ 29 16383) rfl rfl (by kernel_rfl) (by decide) (fun K hK => ?_)
   refine goes_ Try.func85 (by kernel_rfl) rfl #[.int .i64 x1] (by rfl) rfl rfl (by simp only [List.map_toArray, List.map_cons, List.map_nil]; rfl) ?_
   with_reducible refine (volume_calls HV1.out _).mono ?_
   rintro e w3 ⟨rfl, hdr⟩
   refine ⟨_, rfl, ?_⟩
   have hb := hdr.below
   have HBF := Aside0.mk (below_step HB1.out hb)
   refine hK.out _ _ ⟨(hb.cell (World.block_lt_of_cell? _ _ hHeld.1)).trans hHeld.1, (hb.cell (World.block_lt_of_cell? _ _ hHeld.2)).trans hHeld.2⟩ (fun hHeld => ?_)
   clear hK K
   refine norm_ (a' := ?_) ?_ ?_
   rotate_left
   ·show Act.put _ (some 30) _ = _
    simp only [Act.put, sI_, s0_, sS_, i64_w, i32_w]
    rfl
   refine pv_ 14 31 (w_ 29 32767) rfl ?_
   refine pv_ 15 32 (w_ 29 65535) rfl ?_
   refine pv_ 16 33 (w_ 29 131071) rfl ?_
   refine pv_ 17 34 (w_ 29 262143) rfl ?_
   refine pv_ 18 35 (w_ 29 524287) rfl ?_
   refine pv_ 19 36 (w_ 29 1048575) rfl ?_
   refine pv_ 20 37 (w_ 29 2097151) rfl ?_
   refine pv_ 22 39 (w_ 29 6291455) rfl ?_
   refine pv_ 23 40 (w_ 29 14680063) rfl ?_
   refine pv_ 24 41 (w_ 29 31457279) rfl ?_
   refine pv_ 25 42 (w_ 29 65011711) rfl ?_
   refine tb_ 21 38 (w_ 29 67108863) rfl hHeld (by rintro w' ⟨s0, s1⟩; go_simp; with_reducible rfl) ?_
   refine tb_ 26 43 (w_ 29 134217727) rfl hHeld (by rintro w' ⟨s0, s1⟩; go_simp; with_reducible rfl) ?_
   refine pv_ 27 44 (w_ 29 268435455) rfl ?_
   refine pv_ 28 45 (w_ 29 536870911) rfl ?_
   refine done_ (by kernel_rfl) ?_
   go_wp2
   go_ret
   exact ⟨by rw [HF.out]; rfl, HB.out.trans (HBF.out.mono HB.out.size)⟩
  have t2 : decide (x1 < x0) = false := decide_eq_false v2
  have HG := Aside0.mk (show oddR (rd_T38 l1 i) = false by rw [HODD.out]; exact decide_eq_false (fun h => h ⟨v0.1, v0.2, v1.1, v1.2, by omega⟩))
  clear v0 v1 v2
  have hz1 : i + 1 ≤ 9223372036854775807 := by have := HI2.out; have := HSZ.out; omega
  have hz2 : -9223372036854775808 ≤ i + 1 := by have := HI2.out; omega
  go_wp2
  refine start_ (n := 29) (S := fun w' => w'.cell? (ad.add (i.toNat * 2)) = some (.int .i64 x0) ∧ w'.cell? ⟨(ad.add (i.toNat * 2)).block, (ad.add (i.toNat * 2)).off + 1, none⟩ = some (.int .i64 x1)) (ds := []) #[n_, n_, n_, n_, n_, n_, n_, n_, n_, n_, n_, n_, n_, n_, n_, n_, n_, n_, n_, n_, n_, n_, n_, n_, n_, n_, n_, n_, n_] (by kernel_rfl) rfl rfl ⟨hx0, hx1⟩ (fun hHeld => ?_)
  refine pv_ 0 17 (w_ 29 1) rfl ?_
  refine pv_ 1 18 (w_ 29 3) rfl ?_
  refine pv_ 2 19 (w_ 29 7) rfl ?_
  refine pv_ 3 20 (w_ 29 15) rfl ?_
  refine tb_ 4 21 (w_ 29 31) rfl hHeld (by rintro w' ⟨s0, s1⟩; go_simp; with_reducible rfl) ?_
  refine one_ (i := 5) (N := some 22) (w_ 29 63) rfl rfl (by kernel_rfl) (by decide) (fun K hK => ?_)
  refine goes_ Try.func85 (by kernel_rfl) rfl #[.int .i64 x0] (by rfl) rfl rfl (by simp only [List.map_toArray, List.map_cons, List.map_nil]; rfl) ?_
  with_reducible refine (volume_calls HV0.out _).mono ?_
  rintro e w3 ⟨rfl, hdr⟩
  refine ⟨_, rfl, ?_⟩
  have hb := hdr.below
  have HB1 := Aside0.mk (below_step (below_drew (Below.refl _ _)) hb)
  refine hK.out _ _ ⟨(hb.cell (World.block_lt_of_cell? _ _ hHeld.1)).trans hHeld.1, (hb.cell (World.block_lt_of_cell? _ _ hHeld.2)).trans hHeld.2⟩ (fun hHeld => ?_)
  clear hK K
  refine norm_ (a' := ?_) ?_ ?_
  rotate_left
  ·show Act.put _ (some 22) _ = _
   simp only [Act.put, sI_, s0_, sS_, i64_w, i32_w]
   rfl
  refine pv_ 6 23 (w_ 29 127) rfl ?_
  refine pv_ 7 24 (w_ 29 255) rfl ?_
  refine pv_ 8 25 (w_ 29 511) rfl ?_
  refine pv_ 9 26 (w_ 29 1023) rfl ?_
  refine pv_ 10 27 (w_ 29 2047) rfl ?_
  refine pv_ 11 28 (w_ 29 4095) rfl ?_
  refine tb_ 12 29 (w_ 29 8191) rfl hHeld (by rintro w' ⟨s0, s1⟩; go_simp; with_reducible rfl) ?_
  refine one_ (i := 13) (N := some 30) (w_ 29 16383) rfl rfl (by kernel_rfl) (by decide) (fun K hK => ?_)
  refine goes_ Try.func85 (by kernel_rfl) rfl #[.int .i64 x1] (by rfl) rfl rfl (by simp only [List.map_toArray, List.map_cons, List.map_nil]; rfl) ?_
  with_reducible refine (volume_calls HV1.out _).mono ?_
  rintro e w3 ⟨rfl, hdr⟩
  refine ⟨_, rfl, ?_⟩
  have hb := hdr.below
  have HBF := Aside0.mk (below_step HB1.out hb)
  refine hK.out _ _ ⟨(hb.cell (World.block_lt_of_cell? _ _ hHeld.1)).trans hHeld.1, (hb.cell (World.block_lt_of_cell? _ _ hHeld.2)).trans hHeld.2⟩ (fun hHeld => ?_)
  clear hK K
  refine norm_ (a' := ?_) ?_ ?_
  rotate_left
  ·show Act.put _ (some 30) _ = _
   simp only [Act.put, sI_, s0_, sS_, i64_w, i32_w]
   rfl
  refine pv_ 14 31 (w_ 29 32767) rfl ?_
  refine pv_ 15 32 (w_ 29 65535) rfl ?_
  refine pv_ 16 33 (w_ 29 131071) rfl ?_
  refine pv_ 17 34 (w_ 29 262143) rfl ?_
  refine pv_ 18 35 (w_ 29 524287) rfl ?_
  refine pv_ 19 36 (w_ 29 1048575) rfl ?_
  refine pv_ 20 37 (w_ 29 2097151) rfl ?_
  refine pv_ 22 39 (w_ 29 6291455) rfl ?_
  refine pv_ 23 40 (w_ 29 14680063) rfl ?_
  refine pv_ 24 41 (w_ 29 31457279) rfl ?_
  refine pv_ 25 42 (w_ 29 65011711) rfl ?_
  refine tb_ 21 38 (w_ 29 67108863) rfl hHeld (by rintro w' ⟨s0, s1⟩; go_simp; with_reducible rfl) ?_
  refine tb_ 26 43 (w_ 29 134217727) rfl hHeld (by rintro w' ⟨s0, s1⟩; go_simp; with_reducible rfl) ?_
  refine pv_ 27 44 (w_ 29 268435455) rfl ?_
  refine pv_ 28 45 (w_ 29 536870911) rfl ?_
  refine done_ (by kernel_rfl) ?_
  go_wp2
  go_roundg (gk - 1)
  case measure => have := HM.out; have := HI2.out; omega
  case rel =>
   refine ⟨n + 1, ?_, ⟨by have := HM.out; have := HI2.out; omega⟩, ⟨fun j hj => ?_⟩, ⟨HB.out.trans (HBF.out.mono HB.out.size)⟩⟩
   ·have := HI2.out
    first | (rw [show ((n + 1 : Nat) : Int) = i + 1 from by omega]; done) | (simp; omega)
   ·by_cases hj' : j < n
    ·exact HOK.out j hj'
    ·rw [show j = n by omega, ← HNI.out]
     exact HG.out
end
section
def cohousingref28_empty.l0 : Nat → List (S38) → Int → Option (Bool)
 | 0, _, _ => none
 | k + 1, x0, x3 => if x3 < (x0.length : Int) then (if 0 ≤ x3 then (if ((rd_T38 x0 x3).f0) > ((rd_T38 x0 x3).f1) then (some true) else (cohousingref28_empty.l0 k x0 (wrap64 (x3 + 1)))) else (none)) else (some false)
def cohousingref28_empty.f (k : Nat) (l0 : List (S38)) : Option (Bool) := cohousingref28_empty.l0 k l0 0
theorem cohousingref28_empty.mono_l : ∀ k, (∀ y0 y1, LeO (cohousingref28_empty.l0 k y0 y1) (cohousingref28_empty.l0 (k + 1) y0 y1))
 | 0 => fun _ _ r h => by simp [cohousingref28_empty.l0] at h
 | k + 1 => by
  have ih0 := cohousingref28_empty.mono_l k
  ·intro y0 y1
   unfold cohousingref28_empty.l0
   repeat' first
   | (with_reducible exact ih0 _ _)
   | (with_reducible exact LeO.refl _)
   | (with_reducible exact LeO.none _)
   | (with_reducible refine LeO.ite ?_ ?_)
   | (with_reducible refine LeO.bind ?_ (fun _ => ?_))
   | exact ih0 _ _
   | exact LeO.none _
   | refine LeO.ite ?_ ?_
   | refine LeO.bind ?_ (fun _ => ?_)
theorem cohousingref28_empty.mono : ∀ a0 k, LeO (cohousingref28_empty.f k a0) (cohousingref28_empty.f (k + 1) a0) := by
 intro a0 k
 have ih0 := cohousingref28_empty.mono_l k
 unfold cohousingref28_empty.f
 repeat' first
   | (with_reducible exact ih0 _ _)
   | (with_reducible exact LeO.refl _)
   | (with_reducible exact LeO.none _)
   | (with_reducible refine LeO.ite ?_ ?_)
   | (with_reducible refine LeO.bind ?_ (fun _ => ?_))
   | exact ih0 _ _
   | exact LeO.none _
   | refine LeO.ite ?_ ?_
   | refine LeO.bind ?_ (fun _ => ?_)
theorem cohousingref28_empty.calls (k : Nat) (A0 : Option Addr) (c0 : Nat) (l0 : List (S38)) (r : Bool) (w : World) (hr0 : Kd.C k38 w A0 l0.length l0) (hc0 : l0.length ≤ c0) (h : cohousingref28_empty.f k l0 = some r) :
  Calls Try.prog 88 #[.slice A0 l0.length c0] w fun e w' => e = .returned (.bool r) ∧ Drawn0 w w' := by
 have HR0 := Aside0.mk hr0
 have HC0 := Aside0.mk hc0
 clear hr0 hc0
 have H : (cohousingref28_empty.l0 k l0 0) = some r := h
 clear h
 have H' := Aside0.mk H
 clear H
 go_enter Try.func88, Try.ntmps88
 go_wp2
 repeat (go_quiet (fail); try go_wp2)
 go_loopg [3] k (fun kq v3 w' => ∃ (x3_1 : Int), v3 = .int .i64 x3_1 ∧ Aside0 (cohousingref28_empty.l0 kq l0 x3_1 = some r) ∧ Aside0 (kq ≤ k) ∧ Drawn0 w w')
 case atStart => exact ⟨(0), sd_, H', ⟨Nat.le_refl _⟩, by repeat (first | exact Drawn0.refl _ | apply Drawn0.step)⟩
 case round =>
  clear H'
  obtain ⟨x3_1, rfl, HA, HK1, ⟨m1, rfl⟩⟩ := hrel
  cases gk with
  | zero => exact absurd HA.out (by simp [cohousingref28_empty.l0])
  | succ k1 =>
   have H := HA.out
   clear HA
   simp only [cohousingref28_empty.l0] at H
   by_cases c2 : x3_1 < (l0.length : Int)
   ·rw [if_pos c2] at H
    have c2b0 : decide (x3_1 < (l0.length : Int)) = true := decide_eq_true c2
    clear c2
    by_cases c3 : 0 ≤ x3_1
    ·rw [if_pos c3] at H
     have c3b0 : decide (0 ≤ x3_1) = true := decide_eq_true c3
     clear c3
     by_cases c4 : ((rd_T38 l0 x3_1).f0) > ((rd_T38 l0 x3_1).f1)
     ·rw [if_pos c4] at H
      have c4b0 : decide (((rd_T38 l0 x3_1).f1) < ((rd_T38 l0 x3_1).f0)) = true := decide_eq_true c4
      clear c4
      obtain rfl := Option.some.inj H
      have p280 : 0 ≤ (x3_1 : Int) := od_
      have q280 : x3_1 < (l0.length : Int) := od_
      obtain ⟨ad280, e280, hx280_0, hx280_1⟩ := at_T38 HR0.out x3_1 p280 q280
      cases e280
      replace p280 := eq_true p280
      replace q280 := eq_true q280
      have p281 : 0 ≤ (x3_1 : Int) := od_
      have q281 : x3_1 < (l0.length : Int) := od_
      obtain ⟨ad281, e281, hx281_0, hx281_1⟩ := at_T38 HR0.out x3_1 p281 q281
      obtain rfl : ad280 = ad281 := (by injection e281)
      replace p281 := eq_true p281
      replace q281 := eq_true q281
      go_wp2
      repeat (go_quiet (fail); try go_wp2)
      go_ret
      exact ⟨by first | rfl | (simp; done) | (simp [*]; done), by repeat (first | exact Drawn0.refl _ | apply Drawn0.step)⟩
     ·rw [if_neg c4] at H
      have c4b0 : decide (((rd_T38 l0 x3_1).f1) < ((rd_T38 l0 x3_1).f0)) = false := decide_eq_false c4
      clear c4
      have H' := Aside0.mk H
      clear H
      have p280 : 0 ≤ (x3_1 : Int) := od_
      have q280 : x3_1 < (l0.length : Int) := od_
      obtain ⟨ad280, e280, hx280_0, hx280_1⟩ := at_T38 HR0.out x3_1 p280 q280
      cases e280
      replace p280 := eq_true p280
      replace q280 := eq_true q280
      have p281 : 0 ≤ (x3_1 : Int) := od_
      have q281 : x3_1 < (l0.length : Int) := od_
      obtain ⟨ad281, e281, hx281_0, hx281_1⟩ := at_T38 HR0.out x3_1 p281 q281
      obtain rfl : ad280 = ad281 := (by injection e281)
      replace p281 := eq_true p281
      replace q281 := eq_true q281
      go_wp2
      repeat (go_quiet (fail); try go_wp2)
      go_roundg k1
      case measure => have := HK1.out; omega
      case rel => exact ⟨(wrap64 (x3_1 + 1)), sd_, H', ⟨by have := HK1.out; omega⟩, by repeat (first | exact Drawn0.refl _ | apply Drawn0.step)⟩
    ·rw [if_neg c3] at H
     exact absurd H (by simp)
   ·rw [if_neg c2] at H
    have c2b0 : decide (x3_1 < (l0.length : Int)) = false := decide_eq_false c2
    clear c2
    obtain rfl := Option.some.inj H
    go_wp2
    repeat (go_quiet (fail); try go_wp2)
    go_ret
    exact ⟨by first | rfl | (simp; done) | (simp [*]; done), by repeat (first | exact Drawn0.refl _ | apply Drawn0.step)⟩
end
section
def cohousingref28_narrow.f (a0_0 : Int) (a0_1 : Int) (a1 : Int) (a2 : Int) : Option (Int × Int) := some (mx a0_0 a1, mn a0_1 a2)
theorem cohousingref28_narrow.calls (a0_0 : Int) (a0_1 : Int) (a1 : Int) (a2 : Int) (r1 : Int) (r2 : Int) (w : World) (h : cohousingref28_narrow.f a0_0 a0_1 a1 a2 = some (r1, r2)) :
  Calls Try.prog 96 #[.agg #[.int .i64 a0_0, .int .i64 a0_1], .int .i64 a1, .int .i64 a2] w fun e w' => e = .returned (.agg #[.int .i64 r1, .int .i64 r2]) ∧ Below w.heap.size w w' := by
 have hu38 := Try.underlying38
 have HB := Aside0.mk (Below.refl w.heap.size w)
 have H : (some (mx a0_0 a1, mn a0_1 a2)) = some (r1, r2) := h
 clear h
 obtain ⟨ji4, hji4⟩ : ∃ j_ : Int, (mx a0_0 a1) = j_ := ⟨_, rfl⟩
 replace H : (some (ji4, mn a0_1 a2)) = some (r1, r2) := by first | (rw [hji4] at H; exact H) | (simp only [hji4] at H ⊢; exact H)
 have hji4_ : (if a0_0 < a1 then a1 else a0_0) = ji4 := hji4
 obtain ⟨ji5, hji5⟩ : ∃ j_ : Int, (mn a0_1 a2) = j_ := ⟨_, rfl⟩
 replace H : (some (ji4, ji5)) = some (r1, r2) := by first | (rw [hji5] at H; exact H) | (simp only [hji5] at H ⊢; exact H)
 have hji5_ : (if a2 < a0_1 then a2 else a0_1) = ji5 := hji5
 simp only [Option.some.injEq, Prod.mk.injEq] at H
 obtain ⟨rfl, rfl⟩ := H
 go_enter Try.func96, Try.ntmps96
 go_wp2_with (first | ((with_reducible refine gate_dst (N := 3) rfl ?_); refine box_event ?hg (N := 3) ?hd (cs := #[.int .i64 a0_0, .int .i64 a0_1]) (t := 38) ?hr ?_; (case hd => rfl); (case hg => rfl); (case hr => first | (go_simp; done) | (go_simp; rfl)); intro gb282 hg w6 hbox hb; have n0_ := Aside0.mk (below_step (bb_ HB) hb); have n1_ := Aside0.mk (hbox); have n2_ := Aside0.mk ((by rw [hg]; exact (below_size (bb_ HB)) : w.heap.size ≤ gb282)); have n3_ := Aside0.mk ((by rw [hg]; exact (below_size (bb_ HB)) : w.heap.size ≤ gb282)); clear HB; have HB := n0_; have BK282 := n1_; have GW282 := n2_; have GE282 := n3_; clear n0_ n1_ n2_ n3_; clear hb hbox hg) | ((with_reducible refine gate_dst (N := 6) rfl ?_); refine box_event ?hg (N := 6) ?hd (cs := #[.int .i64 0, .int .i64 0]) (t := 38) ?hr ?_; (case hd => rfl); (case hg => rfl); (case hr => first | (go_simp; done) | (go_simp; rfl)); intro gb283 hg w7 hbox hb; have n0_ := Aside0.mk (blk_below (g := gb282) (o := .cells #[.int .i64 a0_0, .int .i64 a0_1] 38 (0, 0)) (kk_ BK282) hb); have n1_ := Aside0.mk (below_step (bs_ HB GE282.out) hb); have n2_ := Aside0.mk (hbox); have n3_ := Aside0.mk ((by rw [hg]; exact (below_size (bs_ HB GE282.out)) : w.heap.size ≤ gb283)); have n4_ := Aside0.mk ((by rw [hg]; exact (below_size (bs_ HB GE282.out)) : w.heap.size ≤ gb283)); have n5_ := Aside0.mk ((by rw [hg]; exact Nat.ne_of_lt (blk_lt (g := gb282) (o := .cells #[.int .i64 a0_0, .int .i64 a0_1] 38 (0, 0)) (kk_ BK282)) : gb282 ≠ gb283)); have n6_ := Aside0.mk ((by rw [hg]; exact Nat.ne_of_gt (blk_lt (g := gb282) (o := .cells #[.int .i64 a0_0, .int .i64 a0_1] 38 (0, 0)) (kk_ BK282)) : gb283 ≠ gb282)); clear BK282; clear HB; have BK282 := n0_; have HB := n1_; have BK283 := n2_; have GW283 := n3_; have GE283 := n4_; have NB282_283 := n5_; have NB283_282 := n6_; clear n0_ n1_ n2_ n3_ n4_ n5_ n6_; clear hb hbox hg; have hnb8 := NB282_283.out; have hnc8 := NB283_282.out; have hcz9_0 : w7.cell? ⟨gb282, 0, none⟩ = some (.int .i64 a0_0) := (blk_cell BK282.out 0).trans rfl; have hcz9_1 : w7.cell? ⟨gb282, 1, none⟩ = some (.int .i64 a0_1) := (blk_cell BK282.out 1).trans rfl; have hfz9_0 := blk_frozen BK282.out 0; have hfz9_1 := blk_frozen BK282.out 1; have hcz10_0 : w7.cell? ⟨gb283, 0, none⟩ = some (.int .i64 0) := (blk_cell BK283.out 0).trans rfl; have hcz10_1 : w7.cell? ⟨gb283, 1, none⟩ = some (.int .i64 0) := (blk_cell BK283.out 1).trans rfl; have hfz10_0 := blk_frozen BK283.out 0; have hfz10_1 := blk_frozen BK283.out 1))
 refine bodyPost_ret (results_cell_row rfl _ _ gb283 38 #[.int .i64 ji4, .int .i64 ji5] (0, 0) _ rfl (by (with_reducible repeat (first | refine blk_drewN ?_ _ | refine blk_drew ?_ | refine blk_alloc ?_ _)); refine blk_put (cs := #[.int .i64 ji4, .int .i64 0]) ?_ 1 _ rfl; (with_reducible repeat (first | refine blk_drewN ?_ _ | refine blk_drew ?_ | refine blk_alloc ?_ _)); refine blk_put (cs := #[.int .i64 0, .int .i64 0]) ?_ 0 _ rfl; (with_reducible repeat (first | refine blk_drewN ?_ _ | refine blk_drew ?_ | refine blk_alloc ?_ _)); exact BK283.out) Try.underlying38 rfl (by kernel_rfl)) rfl ?_
 exact ⟨by first | rfl | (simp [errW_none, errW_some] <;> rfl) | (simp only [← hji4, ← hji5]; first | rfl | (simp [errW_none, errW_some] <;> rfl)) | (simp [*, errW_none, errW_some] <;> rfl), by repeat (first | (with_reducible first | exact HB.out | apply below_alloc | apply pw_below_drewN | apply below_drew1 | refine below_set ?_ GE282.out | refine below_set ?_ GE283.out) | exact HB.out)⟩
end
end Go.Proofs.Ytbgchacafglcpaa.P
end
