/- Part 3 of the base that the seat's proofs share: words, walks and plain laws. -/
import Derived.ArgAppend
import Derived.Below
import Derived.BigQuiet
import Derived.ChangeOld
import Derived.ChangeSlices
import Derived.Deep.AppendLies
import Derived.Deep.CutBlock
import Derived.Deep.DeepCutAuto
import Derived.Deep.Draws
import Derived.Deep.LoopGhost
import Derived.Deep.OwnRows
import Derived.Deep.QuietTactic
import Derived.Deep.RegionHeld3
import Derived.Deep.Slices
import Derived.KernelRfl
import Derived.Laws.BitsLemmas
import Derived.Laws.BytesArg
import Derived.Laws.IdiomCopy
import Derived.Laws.MakeOwn
import Derived.Laws.OwnMore
import Derived.Laws.Rows
import Derived.Laws.Slices
import Derived.Laws.StructEq
import Derived.Lib.AppendStr
import Derived.Lib.BufferOwn
import Derived.Lib.ConvBytes
import Derived.Lib.SliceRun
import Derived.LoopIn
import Derived.LoopNIn
import Derived.Maps.AppendAt
import Derived.Maps.Own
import Derived.OpenShut
import Derived.OrdersHeld
import Derived.OwnWalk
import Derived.OwnWalkIn
import Derived.ProofKit
import Derived.RangeFuncBound
import Derived.RangeFuncCalls
import Derived.RangeFuncLeaves
import Derived.RangeFuncNested
import Derived.RowKit
import Derived.RowKit3
import Derived.ShutString
import Derived.SizedLaws
import Derived.Tactics
import Derived.TacticsInMore
import Derived.Test.YtolmjhpapidmhaaProg
import Derived.WalkKit
import Derived.WideLaws
import Derived.Test.YtolmjhpapidmhaaCQb
set_option linter.unusedVariables false
set_option linter.unusedSimpArgs false
section
namespace Go.Proofs.Ytolmjhpapidmhaa.P
open Go.RowKit Go.Proofs.YtolmjhpapidmhaaW.PrintWords Go.Proofs.YtolmjhpapidmhaaW.PrintLast Go.Proofs.YtolmjhpapidmhaaW.PrintMore
attribute [local go_sem] max2_int min2_int max_two min_two max_three min_three max_four min_four
set_option linter.unusedVariables false
set_option linter.unusedSimpArgs false
set_option maxHeartbeats 8000000
set_option maxRecDepth 100000
section
def cohousinglaw30_head.f (k : Nat)  : Option (Bool) := (some (([(⟨1, 0, 0⟩ : S44), (⟨2, 1, 0⟩ : S44), (⟨3, 1, 0⟩ : S44)] : List (S44)) : List (S44))).bind fun y125 => ((some (([(⟨10, 10⟩ : S46), (⟨4, 4⟩ : S46), (⟨5, 5⟩ : S46)] : List (S46)) : List (S46))).bind fun y128 => ((leak_Explain.f y125 y128 1).bind fun bt131 => ((leak_Sure.f y125 y128 3).bind fun bt136 => ((leak_Explain.f y125 y128 0).bind fun bt140 => ((leak_Sure.f y125 y128 0).bind fun bt145 => (if 2 < (y128.length : Int) then ((some (y128.set (2 : Int).toNat (⟨(rd_T46 y128 2).f0, 6⟩ : S46) : List (S46))).bind fun y149 => ((leak_Explain.f y125 y149 3).bind fun bt150 => ((leak_Explain.f y125 y149 4).bind fun bt155 => (if bt131.2.2 = 0 then (if bt131.2.1 = true then ((cohousingref30_Same.f k bt131.1 (([0] : List Int))).bind fun t163 => (if t163 = true then (if bt136.2 = 0 then ((cohousingref30_Same.f k bt136.1 (([0] : List Int))).bind fun t167 => (if t167 = true then (if bt140.2.2 = 0 then (if bt140.2.1 = true then (some false) else (if bt145.2 = 4 then (if bt150.2.2 = 0 then (if bt150.2.1 = true then (if (bt150.1.length : Int) = 0 then (some (bt155.2.2 == 1)) else (some false)) else (some false)) else (some false)) else (some false))) else (some false)) else (some false))) else (some false)) else (some false))) else (some false)) else (some false))))) else (none)))))))
theorem cohousinglaw30_head.mono : ∀ k, LeO (cohousinglaw30_head.f k ) (cohousinglaw30_head.f (k + 1) ) := by
 intro  k
 unfold cohousinglaw30_head.f
 repeat' first
   | (with_reducible exact cohousingref30_Same.mono _ _ _)
   | (with_reducible exact LeO.refl _)
   | (with_reducible exact LeO.none _)
   | (with_reducible refine LeO.ite ?_ ?_)
   | (with_reducible refine LeO.bind ?_ (fun _ => ?_))
   | exact cohousingref30_Same.mono _ _ _
   | exact LeO.none _
   | refine LeO.ite ?_ ?_
   | refine LeO.bind ?_ (fun _ => ?_)
theorem cohousinglaw30_head.yes : ∀ k r, cohousinglaw30_head.f k = some r → r = true := fun k r h => by
 have h1 : cohousinglaw30_head.f 60 = some true := by kernel_rfl
 have up : ∀ (d a : Nat) (x : Bool), cohousinglaw30_head.f a = some x → cohousinglaw30_head.f (a + d) = some x := fun d => by
  induction d with
  | zero => intro a x hx; exact hx
  | succ d ih => intro a x hx; exact cohousinglaw30_head.mono _ _ (ih a x hx)
 have h2 := up 60 k r h
 have h3 := up k 60 true h1
 rw [Nat.add_comm] at h3
 rw [h2] at h3
 exact Option.some.inj h3
theorem cohousinglaw30_head.calls (k : Nat)  (r : Bool) (w : World) (h : cohousinglaw30_head.f k  = some r) :
  Calls Try.prog 11 #[] w fun e w' => e = .returned (.bool r) ∧ Below w.heap.size w w' := by
 have hr_ := cohousinglaw30_head.yes k r h
 subst hr_
 have hu44 := Try.underlying44
 have hu46 := Try.underlying46
 have HB := Aside0.mk (Below.refl w.heap.size w)
 have H : ((some (([(⟨1, 0, 0⟩ : S44), (⟨2, 1, 0⟩ : S44), (⟨3, 1, 0⟩ : S44)] : List (S44)) : List (S44))).bind fun y125 => ((some (([(⟨10, 10⟩ : S46), (⟨4, 4⟩ : S46), (⟨5, 5⟩ : S46)] : List (S46)) : List (S46))).bind fun y128 => ((leak_Explain.f y125 y128 1).bind fun bt131 => ((leak_Sure.f y125 y128 3).bind fun bt136 => ((leak_Explain.f y125 y128 0).bind fun bt140 => ((leak_Sure.f y125 y128 0).bind fun bt145 => (if 2 < (y128.length : Int) then ((some (y128.set (2 : Int).toNat (⟨(rd_T46 y128 2).f0, 6⟩ : S46) : List (S46))).bind fun y149 => ((leak_Explain.f y125 y149 3).bind fun bt150 => ((leak_Explain.f y125 y149 4).bind fun bt155 => (if bt131.2.2 = 0 then (if bt131.2.1 = true then ((cohousingref30_Same.f k bt131.1 (([0] : List Int))).bind fun t163 => (if t163 = true then (if bt136.2 = 0 then ((cohousingref30_Same.f k bt136.1 (([0] : List Int))).bind fun t167 => (if t167 = true then (if bt140.2.2 = 0 then (if bt140.2.1 = true then (some false) else (if bt145.2 = 4 then (if bt150.2.2 = 0 then (if bt150.2.1 = true then (if (bt150.1.length : Int) = 0 then (some (bt155.2.2 == 1)) else (some false)) else (some false)) else (some false)) else (some false))) else (some false)) else (some false))) else (some false)) else (some false))) else (some false)) else (some false))))) else (none)))))))) = some true := h
 clear h
 obtain ⟨y125, hy125⟩ : ∃ y_ : List (S44), y_ = (([(⟨1, 0, 0⟩ : S44), (⟨2, 1, 0⟩ : S44), (⟨3, 1, 0⟩ : S44)] : List (S44))) := ⟨_, rfl⟩
 replace H : ((some (([(⟨10, 10⟩ : S46), (⟨4, 4⟩ : S46), (⟨5, 5⟩ : S46)] : List (S46)) : List (S46))).bind fun y128 => ((leak_Explain.f y125 y128 1).bind fun bt131 => ((leak_Sure.f y125 y128 3).bind fun bt136 => ((leak_Explain.f y125 y128 0).bind fun bt140 => ((leak_Sure.f y125 y128 0).bind fun bt145 => (if 2 < (y128.length : Int) then ((some (y128.set (2 : Int).toNat (⟨(rd_T46 y128 2).f0, 6⟩ : S46) : List (S46))).bind fun y149 => ((leak_Explain.f y125 y149 3).bind fun bt150 => ((leak_Explain.f y125 y149 4).bind fun bt155 => (if bt131.2.2 = 0 then (if bt131.2.1 = true then ((cohousingref30_Same.f k bt131.1 (([0] : List Int))).bind fun t163 => (if t163 = true then (if bt136.2 = 0 then ((cohousingref30_Same.f k bt136.1 (([0] : List Int))).bind fun t167 => (if t167 = true then (if bt140.2.2 = 0 then (if bt140.2.1 = true then (some false) else (if bt145.2 = 4 then (if bt150.2.2 = 0 then (if bt150.2.1 = true then (if (bt150.1.length : Int) = 0 then (some (bt155.2.2 == 1)) else (some false)) else (some false)) else (some false)) else (some false))) else (some false)) else (some false))) else (some false)) else (some false))) else (some false)) else (some false))))) else (none))))))) = some true := by first | (rw [hy125]; with_reducible exact H) | (have H2_ := (Option.bind_some _ _).symm.trans H; rw [hy125]; with_reducible exact H2_) | (have H2_ := (Option.bind_some _ _).symm.trans H; with_reducible exact H2_) | with_reducible exact H | (rw [hy125]; exact H) | exact H
 have Ny125 := Aside0.mk hy125
 clear hy125
 obtain ⟨y128, hy128⟩ : ∃ y_ : List (S46), y_ = (([(⟨10, 10⟩ : S46), (⟨4, 4⟩ : S46), (⟨5, 5⟩ : S46)] : List (S46))) := ⟨_, rfl⟩
 replace H : ((leak_Explain.f y125 y128 1).bind fun bt131 => ((leak_Sure.f y125 y128 3).bind fun bt136 => ((leak_Explain.f y125 y128 0).bind fun bt140 => ((leak_Sure.f y125 y128 0).bind fun bt145 => (if 2 < (y128.length : Int) then ((some (y128.set (2 : Int).toNat (⟨(rd_T46 y128 2).f0, 6⟩ : S46) : List (S46))).bind fun y149 => ((leak_Explain.f y125 y149 3).bind fun bt150 => ((leak_Explain.f y125 y149 4).bind fun bt155 => (if bt131.2.2 = 0 then (if bt131.2.1 = true then ((cohousingref30_Same.f k bt131.1 (([0] : List Int))).bind fun t163 => (if t163 = true then (if bt136.2 = 0 then ((cohousingref30_Same.f k bt136.1 (([0] : List Int))).bind fun t167 => (if t167 = true then (if bt140.2.2 = 0 then (if bt140.2.1 = true then (some false) else (if bt145.2 = 4 then (if bt150.2.2 = 0 then (if bt150.2.1 = true then (if (bt150.1.length : Int) = 0 then (some (bt155.2.2 == 1)) else (some false)) else (some false)) else (some false)) else (some false))) else (some false)) else (some false))) else (some false)) else (some false))) else (some false)) else (some false))))) else (none)))))) = some true := by first | (rw [hy128]; with_reducible exact H) | (have H2_ := (Option.bind_some _ _).symm.trans H; rw [hy128]; with_reducible exact H2_) | (have H2_ := (Option.bind_some _ _).symm.trans H; with_reducible exact H2_) | with_reducible exact H | (rw [hy128]; exact H) | exact H
 have Ny128 := Aside0.mk hy128
 clear hy128
 replace H := Option.bind_eq_some_iff.mp H
 obtain ⟨⟨t131, t132, t133⟩, A10, H⟩ := H
 replace H : ((leak_Sure.f y125 y128 3).bind fun bt136 => ((leak_Explain.f y125 y128 0).bind fun bt140 => ((leak_Sure.f y125 y128 0).bind fun bt145 => (if 2 < (y128.length : Int) then ((some (y128.set (2 : Int).toNat (⟨(rd_T46 y128 2).f0, 6⟩ : S46) : List (S46))).bind fun y149 => ((leak_Explain.f y125 y149 3).bind fun bt150 => ((leak_Explain.f y125 y149 4).bind fun bt155 => (if t133 = 0 then (if t132 = true then ((cohousingref30_Same.f k t131 (([0] : List Int))).bind fun t163 => (if t163 = true then (if bt136.2 = 0 then ((cohousingref30_Same.f k bt136.1 (([0] : List Int))).bind fun t167 => (if t167 = true then (if bt140.2.2 = 0 then (if bt140.2.1 = true then (some false) else (if bt145.2 = 4 then (if bt150.2.2 = 0 then (if bt150.2.1 = true then (if (bt150.1.length : Int) = 0 then (some (bt155.2.2 == 1)) else (some false)) else (some false)) else (some false)) else (some false))) else (some false)) else (some false))) else (some false)) else (some false))) else (some false)) else (some false))))) else (none))))) = some true := H
 have A1 := Aside0.mk A10
 clear A10
 replace H := Option.bind_eq_some_iff.mp H
 obtain ⟨⟨t136, t137⟩, A20, H⟩ := H
 replace H : ((leak_Explain.f y125 y128 0).bind fun bt140 => ((leak_Sure.f y125 y128 0).bind fun bt145 => (if 2 < (y128.length : Int) then ((some (y128.set (2 : Int).toNat (⟨(rd_T46 y128 2).f0, 6⟩ : S46) : List (S46))).bind fun y149 => ((leak_Explain.f y125 y149 3).bind fun bt150 => ((leak_Explain.f y125 y149 4).bind fun bt155 => (if t133 = 0 then (if t132 = true then ((cohousingref30_Same.f k t131 (([0] : List Int))).bind fun t163 => (if t163 = true then (if t137 = 0 then ((cohousingref30_Same.f k t136 (([0] : List Int))).bind fun t167 => (if t167 = true then (if bt140.2.2 = 0 then (if bt140.2.1 = true then (some false) else (if bt145.2 = 4 then (if bt150.2.2 = 0 then (if bt150.2.1 = true then (if (bt150.1.length : Int) = 0 then (some (bt155.2.2 == 1)) else (some false)) else (some false)) else (some false)) else (some false))) else (some false)) else (some false))) else (some false)) else (some false))) else (some false)) else (some false))))) else (none)))) = some true := H
 have A2 := Aside0.mk A20
 clear A20
 replace H := Option.bind_eq_some_iff.mp H
 obtain ⟨⟨t140, t141, t142⟩, A30, H⟩ := H
 replace H : ((leak_Sure.f y125 y128 0).bind fun bt145 => (if 2 < (y128.length : Int) then ((some (y128.set (2 : Int).toNat (⟨(rd_T46 y128 2).f0, 6⟩ : S46) : List (S46))).bind fun y149 => ((leak_Explain.f y125 y149 3).bind fun bt150 => ((leak_Explain.f y125 y149 4).bind fun bt155 => (if t133 = 0 then (if t132 = true then ((cohousingref30_Same.f k t131 (([0] : List Int))).bind fun t163 => (if t163 = true then (if t137 = 0 then ((cohousingref30_Same.f k t136 (([0] : List Int))).bind fun t167 => (if t167 = true then (if t142 = 0 then (if t141 = true then (some false) else (if bt145.2 = 4 then (if bt150.2.2 = 0 then (if bt150.2.1 = true then (if (bt150.1.length : Int) = 0 then (some (bt155.2.2 == 1)) else (some false)) else (some false)) else (some false)) else (some false))) else (some false)) else (some false))) else (some false)) else (some false))) else (some false)) else (some false))))) else (none))) = some true := H
 have A3 := Aside0.mk A30
 clear A30
 replace H := Option.bind_eq_some_iff.mp H
 obtain ⟨⟨t145, t146⟩, A40, H⟩ := H
 replace H : (if 2 < (y128.length : Int) then ((some (y128.set (2 : Int).toNat (⟨(rd_T46 y128 2).f0, 6⟩ : S46) : List (S46))).bind fun y149 => ((leak_Explain.f y125 y149 3).bind fun bt150 => ((leak_Explain.f y125 y149 4).bind fun bt155 => (if t133 = 0 then (if t132 = true then ((cohousingref30_Same.f k t131 (([0] : List Int))).bind fun t163 => (if t163 = true then (if t137 = 0 then ((cohousingref30_Same.f k t136 (([0] : List Int))).bind fun t167 => (if t167 = true then (if t142 = 0 then (if t141 = true then (some false) else (if t146 = 4 then (if bt150.2.2 = 0 then (if bt150.2.1 = true then (if (bt150.1.length : Int) = 0 then (some (bt155.2.2 == 1)) else (some false)) else (some false)) else (some false)) else (some false))) else (some false)) else (some false))) else (some false)) else (some false))) else (some false)) else (some false))))) else (none)) = some true := H
 have A4 := Aside0.mk A40
 clear A40
 by_cases c5 : 2 < (y128.length : Int)
 ·rw [if_pos c5] at H
  have c5b0 : decide (2 < (y128.length : Int)) = true := decide_eq_true c5
  have c5b1 : decide (2 < y128.length) = true := decide_eq_true (by omega)
  clear c5
  obtain ⟨y149, hy149⟩ : ∃ y_ : List (S46), y_ = (y128.set (2 : Int).toNat (⟨(rd_T46 y128 2).f0, 6⟩ : S46)) := ⟨_, rfl⟩
  replace H : ((leak_Explain.f y125 y149 3).bind fun bt150 => ((leak_Explain.f y125 y149 4).bind fun bt155 => (if t133 = 0 then (if t132 = true then ((cohousingref30_Same.f k t131 (([0] : List Int))).bind fun t163 => (if t163 = true then (if t137 = 0 then ((cohousingref30_Same.f k t136 (([0] : List Int))).bind fun t167 => (if t167 = true then (if t142 = 0 then (if t141 = true then (some false) else (if t146 = 4 then (if bt150.2.2 = 0 then (if bt150.2.1 = true then (if (bt150.1.length : Int) = 0 then (some (bt155.2.2 == 1)) else (some false)) else (some false)) else (some false)) else (some false))) else (some false)) else (some false))) else (some false)) else (some false))) else (some false)) else (some false)))) = some true := by first | (rw [hy149]; with_reducible exact H) | (have H2_ := (Option.bind_some _ _).symm.trans H; rw [hy149]; with_reducible exact H2_) | (have H2_ := (Option.bind_some _ _).symm.trans H; with_reducible exact H2_) | with_reducible exact H | (rw [hy149]; exact H) | exact H
  have Ny149 := Aside0.mk hy149
  clear hy149
  replace H := Option.bind_eq_some_iff.mp H
  obtain ⟨⟨t150, t151, t152⟩, A70, H⟩ := H
  replace H : ((leak_Explain.f y125 y149 4).bind fun bt155 => (if t133 = 0 then (if t132 = true then ((cohousingref30_Same.f k t131 (([0] : List Int))).bind fun t163 => (if t163 = true then (if t137 = 0 then ((cohousingref30_Same.f k t136 (([0] : List Int))).bind fun t167 => (if t167 = true then (if t142 = 0 then (if t141 = true then (some false) else (if t146 = 4 then (if t152 = 0 then (if t151 = true then (if (t150.length : Int) = 0 then (some (bt155.2.2 == 1)) else (some false)) else (some false)) else (some false)) else (some false))) else (some false)) else (some false))) else (some false)) else (some false))) else (some false)) else (some false))) = some true := H
  have A7 := Aside0.mk A70
  clear A70
  replace H := Option.bind_eq_some_iff.mp H
  obtain ⟨⟨t155, t156, t157⟩, A80, H⟩ := H
  replace H : (if t133 = 0 then (if t132 = true then ((cohousingref30_Same.f k t131 (([0] : List Int))).bind fun t163 => (if t163 = true then (if t137 = 0 then ((cohousingref30_Same.f k t136 (([0] : List Int))).bind fun t167 => (if t167 = true then (if t142 = 0 then (if t141 = true then (some false) else (if t146 = 4 then (if t152 = 0 then (if t151 = true then (if (t150.length : Int) = 0 then (some (t157 == 1)) else (some false)) else (some false)) else (some false)) else (some false))) else (some false)) else (some false))) else (some false)) else (some false))) else (some false)) else (some false)) = some true := H
  have A8 := Aside0.mk A80
  clear A80
  by_cases c9 : t133 = 0
  ·rw [if_pos c9] at H
   have c9b0 : (t133 == 0) = true := beq_iff_eq.mpr c9
   have c9b1 : (t133 != 0) = false := bne_eq_false_iff_eq.mpr c9
   clear c9
   by_cases c10 : t132 = true
   ·subst c10
    have H1 : ((cohousingref30_Same.f k t131 (([0] : List Int))).bind fun t163 => (if t163 = true then (if t137 = 0 then ((cohousingref30_Same.f k t136 (([0] : List Int))).bind fun t167 => (if t167 = true then (if t142 = 0 then (if t141 = true then (some false) else (if t146 = 4 then (if t152 = 0 then (if t151 = true then (if (t150.length : Int) = 0 then (some (t157 == 1)) else (some false)) else (some false)) else (some false)) else (some false))) else (some false)) else (some false))) else (some false)) else (some false))) = some true := by rw [if_pos rfl] at H; exact H
    clear H
    have H := H1
    clear H1
    obtain ⟨y160, hy160⟩ : ∃ y_ : List Int, y_ = (([0] : List Int)) := ⟨_, rfl⟩
    replace H : ((cohousingref30_Same.f k t131 y160).bind fun t163 => (if t163 = true then (if t137 = 0 then ((cohousingref30_Same.f k t136 (([0] : List Int))).bind fun t167 => (if t167 = true then (if t142 = 0 then (if t141 = true then (some false) else (if t146 = 4 then (if t152 = 0 then (if t151 = true then (if (t150.length : Int) = 0 then (some (t157 == 1)) else (some false)) else (some false)) else (some false)) else (some false))) else (some false)) else (some false))) else (some false)) else (some false))) = some true := by first | (rw [hy160]; with_reducible exact H) | (have H2_ := (Option.bind_some _ _).symm.trans H; rw [hy160]; with_reducible exact H2_) | (have H2_ := (Option.bind_some _ _).symm.trans H; with_reducible exact H2_) | with_reducible exact H | (rw [hy160]; exact H) | exact H
    have Ny160 := Aside0.mk hy160
    clear hy160
    replace H := Option.bind_eq_some_iff.mp H
    obtain ⟨t163, A110, H⟩ := H
    replace H : (if t163 = true then (if t137 = 0 then ((cohousingref30_Same.f k t136 (([0] : List Int))).bind fun t167 => (if t167 = true then (if t142 = 0 then (if t141 = true then (some false) else (if t146 = 4 then (if t152 = 0 then (if t151 = true then (if (t150.length : Int) = 0 then (some (t157 == 1)) else (some false)) else (some false)) else (some false)) else (some false))) else (some false)) else (some false))) else (some false)) else (some false)) = some true := H
    have A11 := Aside0.mk A110
    clear A110
    by_cases c12 : t163 = true
    ·subst c12
     have H1 : (if t137 = 0 then ((cohousingref30_Same.f k t136 (([0] : List Int))).bind fun t167 => (if t167 = true then (if t142 = 0 then (if t141 = true then (some false) else (if t146 = 4 then (if t152 = 0 then (if t151 = true then (if (t150.length : Int) = 0 then (some (t157 == 1)) else (some false)) else (some false)) else (some false)) else (some false))) else (some false)) else (some false))) else (some false)) = some true := by rw [if_pos rfl] at H; exact H
     clear H
     have H := H1
     clear H1
     by_cases c13 : t137 = 0
     ·rw [if_pos c13] at H
      have c13b0 : (t137 == 0) = true := beq_iff_eq.mpr c13
      have c13b1 : (t137 != 0) = false := bne_eq_false_iff_eq.mpr c13
      clear c13
      obtain ⟨y164, hy164⟩ : ∃ y_ : List Int, y_ = (([0] : List Int)) := ⟨_, rfl⟩
      replace H : ((cohousingref30_Same.f k t136 y164).bind fun t167 => (if t167 = true then (if t142 = 0 then (if t141 = true then (some false) else (if t146 = 4 then (if t152 = 0 then (if t151 = true then (if (t150.length : Int) = 0 then (some (t157 == 1)) else (some false)) else (some false)) else (some false)) else (some false))) else (some false)) else (some false))) = some true := by first | (rw [hy164]; with_reducible exact H) | (have H2_ := (Option.bind_some _ _).symm.trans H; rw [hy164]; with_reducible exact H2_) | (have H2_ := (Option.bind_some _ _).symm.trans H; with_reducible exact H2_) | with_reducible exact H | (rw [hy164]; exact H) | exact H
      have Ny164 := Aside0.mk hy164
      clear hy164
      replace H := Option.bind_eq_some_iff.mp H
      obtain ⟨t167, A140, H⟩ := H
      replace H : (if t167 = true then (if t142 = 0 then (if t141 = true then (some false) else (if t146 = 4 then (if t152 = 0 then (if t151 = true then (if (t150.length : Int) = 0 then (some (t157 == 1)) else (some false)) else (some false)) else (some false)) else (some false))) else (some false)) else (some false)) = some true := H
      have A14 := Aside0.mk A140
      clear A140
      by_cases c15 : t167 = true
      ·subst c15
       have H1 : (if t142 = 0 then (if t141 = true then (some false) else (if t146 = 4 then (if t152 = 0 then (if t151 = true then (if (t150.length : Int) = 0 then (some (t157 == 1)) else (some false)) else (some false)) else (some false)) else (some false))) else (some false)) = some true := by rw [if_pos rfl] at H; exact H
       clear H
       have H := H1
       clear H1
       by_cases c16 : t142 = 0
       ·rw [if_pos c16] at H
        have c16b0 : (t142 == 0) = true := beq_iff_eq.mpr c16
        have c16b1 : (t142 != 0) = false := bne_eq_false_iff_eq.mpr c16
        clear c16
        by_cases c17 : t141 = true
        ·subst c17
         have H1 : (some false) = some true := by rw [if_pos rfl] at H; exact H
         clear H
         have H := H1
         clear H1
         exact absurd (Option.some.inj H) (by decide)
        ·replace c17 := Bool.eq_false_iff.mpr c17
         subst c17
         have H1 : (if t146 = 4 then (if t152 = 0 then (if t151 = true then (if (t150.length : Int) = 0 then (some (t157 == 1)) else (some false)) else (some false)) else (some false)) else (some false)) = some true := by rw [if_neg (show ¬ (false = true) by decide)] at H; exact H
         clear H
         have H := H1
         clear H1
         by_cases c40 : t146 = 4
         ·rw [if_pos c40] at H
          have c40b0 : (t146 == 4) = true := beq_iff_eq.mpr c40
          have c40b1 : (t146 != 4) = false := bne_eq_false_iff_eq.mpr c40
          clear c40
          by_cases c41 : t152 = 0
          ·rw [if_pos c41] at H
           have c41b0 : (t152 == 0) = true := beq_iff_eq.mpr c41
           have c41b1 : (t152 != 0) = false := bne_eq_false_iff_eq.mpr c41
           clear c41
           by_cases c42 : t151 = true
           ·subst c42
            have H1 : (if (t150.length : Int) = 0 then (some (t157 == 1)) else (some false)) = some true := by rw [if_pos rfl] at H; exact H
            clear H
            have H := H1
            clear H1
            by_cases c43 : (t150.length : Int) = 0
            ·rw [if_pos c43] at H
             have c43b0 : ((t150.length : Int) == 0) = true := beq_iff_eq.mpr c43
             have c43b1 : ((t150.length : Int) != 0) = false := bne_eq_false_iff_eq.mpr c43
             clear c43
             have hfin_ := Option.some.inj H
             go_enter Try.func11, Try.ntmps11
             go_wp2_with (first | ((with_reducible refine gate_dst (N := 22) rfl ?_); (try (refine gate_guard (by rfl) ?_; dsimp only)); refine Kd.R_lit k44 _ 44 ?hg (N := 22) ?hd (xs := ([(⟨1, 0, 0⟩ : S44), (⟨2, 1, 0⟩ : S44), (⟨3, 1, 0⟩ : S44)] : List (S44))) (inner := [.int .i64 1, .int .i64 0, .int .i64 0, .int .i64 2, .int .i64 1, .int .i64 0, .int .i64 3, .int .i64 1, .int .i64 0]) (ok := fun _ => True) (okp := fun _ => True) ?hr ?hp (fun _ hk => hk) trivial (Below.refl _ _) (Nat.le_refl _) (by simp) ?_; (case hd => rfl); (case hg => rfl); (case hr => first | (go_simp; done) | (go_simp; rfl)); (case hp => exact (Reps.c3 (show Kd.M k44 _ _ _ (⟨1, 0, 0⟩ : S44) [.int .i64 1, .int .i64 0, .int .i64 0] from (k44_mkM _ _ _ (⟨1, 0, 0⟩ : S44) )) (Reps.c3 (show Kd.M k44 _ _ _ (⟨2, 1, 0⟩ : S44) [.int .i64 2, .int .i64 1, .int .i64 0] from (k44_mkM _ _ _ (⟨2, 1, 0⟩ : S44) )) (Reps.c3 (show Kd.M k44 _ _ _ (⟨3, 1, 0⟩ : S44) [.int .i64 3, .int .i64 1, .int .i64 0] from (k44_mkM _ _ _ (⟨3, 1, 0⟩ : S44) )) (Reps.none _ _))))); intro v126 w44 ho45 hb hg_ hnew_; clear hg_ hnew_; (first | rw [← Ny125.out] at ho45 | (simp only [Int.reduceToNat] at ho45; rw [← Ny125.out] at ho45)); have n0_ := Aside0.mk (Kd.R_lower ho45 (below_size (bb_ HB))); have n1_ := Aside0.mk (below_step (bb_ HB) hb); clear HB; have HO127 := n0_; have HB := n1_; clear n0_ n1_; clear hb ho45) | ((with_reducible refine gate_dst (N := 26) rfl ?_); (try (refine gate_guard (by rfl) ?_; dsimp only)); refine Kd.R_lit k46 _ 46 ?hg (N := 26) ?hd (xs := ([(⟨10, 10⟩ : S46), (⟨4, 4⟩ : S46), (⟨5, 5⟩ : S46)] : List (S46))) (inner := [.int .i64 10, .int .i64 10, .int .i64 4, .int .i64 4, .int .i64 5, .int .i64 5]) (ok := fun _ => True) (okp := fun _ => True) ?hr ?hp (fun _ hk => hk) trivial (Below.refl _ _) (Nat.le_refl _) (by simp) ?_; (case hd => rfl); (case hg => rfl); (case hr => first | (go_simp; done) | (go_simp; rfl)); (case hp => exact (Reps.c2 (show Kd.M k46 _ _ _ (⟨10, 10⟩ : S46) [.int .i64 10, .int .i64 10] from (k46_mkM _ _ _ (⟨10, 10⟩ : S46) )) (Reps.c2 (show Kd.M k46 _ _ _ (⟨4, 4⟩ : S46) [.int .i64 4, .int .i64 4] from (k46_mkM _ _ _ (⟨4, 4⟩ : S46) )) (Reps.c2 (show Kd.M k46 _ _ _ (⟨5, 5⟩ : S46) [.int .i64 5, .int .i64 5] from (k46_mkM _ _ _ (⟨5, 5⟩ : S46) )) (Reps.none _ _))))); intro v129 w46 ho47 hb hg_ hnew_; clear hg_ hnew_; (first | rw [← Ny128.out] at ho47 | (simp only [Int.reduceToNat] at ho47; rw [← Ny128.out] at ho47)); have n0_ := Aside0.mk (Kd.R_below (rr_ HO127) hb); have n1_ := Aside0.mk (Kd.R_lower ho47 (below_size (bb_ HB))); have n2_ := Aside0.mk (below_step (bb_ HB) hb); clear HO127; clear HB; have HO127 := n0_; have HO130 := n1_; have HB := n2_; clear n0_ n1_ n2_; clear hb ho47; obtain ⟨Ao48, co48, eo48⟩ := Kd.R_slice HO127.out; subst eo48; obtain ⟨Ao49, co49, eo49⟩ := Kd.R_slice HO130.out; subst eo49) | ((with_reducible refine gate_callee (f := 13) rfl ?_); refine gl_ (some 30) Try.func13 #[.slice Ao48 y125.length co48, .slice Ao49 y128.length co49, .int .i64 1] ?_; (with_reducible refine (leak_Explain.calls _ _ y125 _ _ y128 1 t131 true t133 _ ?side1 ?side2 ?side3 ?side4 A1.out).mono ?_); (case side1 => exact cc_ ((Kd.R_reads' HO127.out).2.2)); (case side2 => exact (Kd.R_reads' HO127.out).2.1); (case side3 => exact cc_ ((Kd.R_reads' HO130.out).2.2)); (case side4 => exact (Kd.R_reads' HO130.out).2.1); rintro e w50 ⟨v134, rfl, ho0, hb⟩; refine ⟨_, rfl, ?_⟩; have n0_ := Aside0.mk (Kd.R_below (rr_ HO127) hb); have n1_ := Aside0.mk (Kd.R_below (rr_ HO130) hb); have n2_ := Aside0.mk (Kd.R_lower ho0 (below_size (bb_ HB))); have n3_ := Aside0.mk (below_step (bb_ HB) hb); clear HO127; clear HO130; clear HB; have HO127 := n0_; have HO130 := n1_; have HO135 := n2_; have HB := n3_; clear n0_ n1_ n2_ n3_; (try clear hb); (try clear hb2); (try clear hk); (try clear hi); (try clear ho0)) | ((with_reducible refine gate_callee (f := 16) rfl ?_); refine gl_ (some 37) Try.func16 #[.slice Ao48 y125.length co48, .slice Ao49 y128.length co49, .int .i64 3] ?_; (with_reducible refine (leak_Sure.calls _ _ y125 _ _ y128 3 t136 t137 _ ?side1 ?side2 ?side3 ?side4 A2.out).mono ?_); (case side1 => exact cc_ ((Kd.R_reads' HO127.out).2.2)); (case side2 => exact (Kd.R_reads' HO127.out).2.1); (case side3 => exact cc_ ((Kd.R_reads' HO130.out).2.2)); (case side4 => exact (Kd.R_reads' HO130.out).2.1); rintro e w51 ⟨v138, rfl, ho0, hb⟩; refine ⟨_, rfl, ?_⟩; have n0_ := Aside0.mk (Kd.R_below (rr_ HO127) hb); have n1_ := Aside0.mk (Kd.R_below (rr_ HO130) hb); have n2_ := Aside0.mk (Kd.R_elder' (rr_ HO135) (Kd.R_base ho0) hb); have n3_ := Aside0.mk (Kd.R_lower (Kd.R_new' ho0 (Kd.R_lt (rr_ HO135))) (below_size (bb_ HB))); have n4_ := Aside0.mk (below_step (bb_ HB) hb); clear HO127; clear HO130; clear HO135; clear HB; have HO127 := n0_; have HO130 := n1_; have HO135 := n2_; have HO139 := n3_; have HB := n4_; clear n0_ n1_ n2_ n3_ n4_; (try clear hb); (try clear hb2); (try clear hk); (try clear hi); (try clear ho0)) | ((with_reducible refine gate_callee (f := 13) rfl ?_); refine gl_ (some 43) Try.func13 #[.slice Ao48 y125.length co48, .slice Ao49 y128.length co49, .int .i64 0] ?_; (with_reducible refine (leak_Explain.calls _ _ y125 _ _ y128 0 t140 false t142 _ ?side1 ?side2 ?side3 ?side4 A3.out).mono ?_); (case side1 => exact cc_ ((Kd.R_reads' HO127.out).2.2)); (case side2 => exact (Kd.R_reads' HO127.out).2.1); (case side3 => exact cc_ ((Kd.R_reads' HO130.out).2.2)); (case side4 => exact (Kd.R_reads' HO130.out).2.1); rintro e w52 ⟨v143, rfl, ho0, hb⟩; refine ⟨_, rfl, ?_⟩; have n0_ := Aside0.mk (Kd.R_below (rr_ HO127) hb); have n1_ := Aside0.mk (Kd.R_below (rr_ HO130) hb); have n2_ := Aside0.mk (Kd.R_elder' (rr_ HO135) (Kd.R_base ho0) hb); have n3_ := Aside0.mk (Kd.R_elder' (rr_ HO139) (Kd.R_base ho0) hb); have n4_ := Aside0.mk (Kd.R_lower (Kd.R_new' (Kd.R_new' ho0 (Kd.R_lt (rr_ HO135))) (Kd.R_lt (rr_ HO139))) (below_size (bb_ HB))); have n5_ := Aside0.mk (below_step (bb_ HB) hb); clear HO127; clear HO130; clear HO135; clear HO139; clear HB; have HO127 := n0_; have HO130 := n1_; have HO135 := n2_; have HO139 := n3_; have HO144 := n4_; have HB := n5_; clear n0_ n1_ n2_ n3_ n4_ n5_; (try clear hb); (try clear hb2); (try clear hk); (try clear hi); (try clear ho0)) | ((with_reducible refine gate_callee (f := 16) rfl ?_); refine gl_ (some 50) Try.func16 #[.slice Ao48 y125.length co48, .slice Ao49 y128.length co49, .int .i64 0] ?_; (with_reducible refine (leak_Sure.calls _ _ y125 _ _ y128 0 t145 t146 _ ?side1 ?side2 ?side3 ?side4 A4.out).mono ?_); (case side1 => exact cc_ ((Kd.R_reads' HO127.out).2.2)); (case side2 => exact (Kd.R_reads' HO127.out).2.1); (case side3 => exact cc_ ((Kd.R_reads' HO130.out).2.2)); (case side4 => exact (Kd.R_reads' HO130.out).2.1); rintro e w53 ⟨v147, rfl, ho0, hb⟩; refine ⟨_, rfl, ?_⟩; have n0_ := Aside0.mk (Kd.R_below (rr_ HO127) hb); have n1_ := Aside0.mk (Kd.R_below (rr_ HO130) hb); have n2_ := Aside0.mk (Kd.R_elder' (rr_ HO135) (Kd.R_base ho0) hb); have n3_ := Aside0.mk (Kd.R_elder' (rr_ HO139) (Kd.R_base ho0) hb); have n4_ := Aside0.mk (Kd.R_elder' (rr_ HO144) (Kd.R_base ho0) hb); have n5_ := Aside0.mk (Kd.R_lower (Kd.R_new' (Kd.R_new' (Kd.R_new' ho0 (Kd.R_lt (rr_ HO135))) (Kd.R_lt (rr_ HO139))) (Kd.R_lt (rr_ HO144))) (below_size (bb_ HB))); have n6_ := Aside0.mk (below_step (bb_ HB) hb); clear HO127; clear HO130; clear HO135; clear HO139; clear HO144; clear HB; have HO127 := n0_; have HO130 := n1_; have HO135 := n2_; have HO139 := n3_; have HO144 := n4_; have HO148 := n5_; have HB := n6_; clear n0_ n1_ n2_ n3_ n4_ n5_ n6_; (try clear hb); (try clear hb2); (try clear hk); (try clear hi); (try clear ho0); have p6 : 0 ≤ (2 : Int) := (by omega); have q6 : (2 : Int) < ((y128.length : Int) : Int) := od_; have qi6 : (2 < y128.length) = True := eq_true (by omega); obtain ⟨go6, co6, eo6, gb6, gl6, cl6, HG6⟩ := Kd.R_form HO130.out (by omega); (first | cases eo6 | (injection eo6 with ea_ en_ ec_; (first | subst ea_ | (injection ea_ with ea_; subst ea_)); subst ec_; clear en_)); have GB6 := Aside0.mk gb6; have GG6 := Aside0.mk HG6; clear gb6 gl6 HG6; obtain ⟨ce6, hcl6, hM6, hcc6, hfr6⟩ := Kd.R_elem HO130.out z46 (2 : Int) p6 q6; obtain rfl := k46_openM hM6; have hx6_0 : w53.cell? ⟨go6, (2 : Int).toNat * 2, none⟩ = some (.int .i64 ((rd_T46 y128 2).f0)) := hcc6 0 _ rfl; have hx6_1 : w53.cell? ⟨go6, (2 : Int).toNat * 2 + 1, none⟩ = some (.int .i64 ((rd_T46 y128 2).f1)) := hcc6 1 _ rfl; have hf6_0 : w53.frozen? ⟨go6, (2 : Int).toNat * 2, none⟩ = false := hfr6 0; have hf6_1 : w53.frozen? ⟨go6, (2 : Int).toNat * 2 + 1, none⟩ = false := hfr6 1; clear hcl6 hcc6 hfr6 hM6; (try rw [show ((2 : Int)).toNat = 2 from rfl] at hx6_0); (try simp only [Nat.reduceMul, Nat.zero_mul, Nat.zero_add, Nat.reduceAdd] at hx6_0); (try rw [show ((2 : Int)).toNat = 2 from rfl] at hf6_0); (try simp only [Nat.reduceMul, Nat.zero_mul, Nat.zero_add, Nat.reduceAdd] at hf6_0); (try rw [show ((2 : Int)).toNat = 2 from rfl] at hx6_1); (try simp only [Nat.reduceMul, Nat.zero_mul, Nat.zero_add, Nat.reduceAdd] at hx6_1); (try rw [show ((2 : Int)).toNat = 2 from rfl] at hf6_1); (try simp only [Nat.reduceMul, Nat.zero_mul, Nat.zero_add, Nat.reduceAdd] at hf6_1); replace p6 := eq_true p6; replace q6 := eq_true q6; have HX54 := Aside0.mk (show Kd.R k46 46 w53 w.heap.size (fun _ => True) (.slice (some ⟨go6, 0, none⟩) y128.length co49) y128 from (rr_ HO130)); obtain ⟨ce54, hcl54, hM54, hcc54, hfr54⟩ := Kd.R_elem HX54.out z46 (2 : Int) (by omega) (by have h_ : (2 : Int) < ((y128.length : Int) : Int) := od_; first | exact h_ | (have e_ := (Kd.R_reads' HO130.out).1; omega) | simpa using h_); obtain rfl := k46_openM hM54; have HP54 := Kd.R_seg HX54.out (2 : Int) (by omega) (by have h_ : (2 : Int) < ((y128.length : Int) : Int) := od_; first | exact h_ | (have e_ := (Kd.R_reads' HO130.out).1; omega) | simpa using h_) (seg := [.int .i64 6]) (j := 1) hcl54 hcc54 (show 2 ≤ 2 from by decide) (x' := (⟨(rd_T46 y128 2).f0, 6⟩ : S46)) (k46_mkM _ _ _ (⟨(rd_T46 y128 2).f0, 6⟩ : S46) ) (fun _ hk => hk); have hx54_1 := hcc54 1 _ rfl; (try simp only [show (k46).sz = 2 from rfl, Nat.mul_one, Nat.add_zero] at hx54_1); (try rw [show ((2 : Int)).toNat = 2 from rfl] at hx54_1); (try simp only [Nat.reduceMul, Nat.zero_mul, Nat.zero_add, Nat.reduceAdd] at hx54_1); have hf54_1 := hfr54 1; (try simp only [show (k46).sz = 2 from rfl, Nat.mul_one, Nat.add_zero] at hf54_1); (try rw [show ((2 : Int)).toNat = 2 from rfl] at hf54_1); (try simp only [Nat.reduceMul, Nat.zero_mul, Nat.zero_add, Nat.reduceAdd] at hf54_1); clear hcl54 hcc54 hfr54 hM54) | ((with_reducible refine gate_store (t := 3) (p := 55) rfl ?_); refine store_event (t := 3) (p := 55) (v := ?vo_w55) (w1 := (w53.setCell ⟨go6, 5, none⟩ (.int .i64 6))) ?hg ?ho ?hn ?hr ?_; (case ho => rfl); (case hg => rfl); (case hn => rfl); (case hr => first | (go_simp; done) | (go_simp; rfl)); intro w55 hw; have hg : w53.grownBy w55 (some go6) := (by rw [hw]; exact HP54.2); have hp_ : Kd.R k46 46 w55 w.heap.size (fun _ => True) (.slice (some ⟨go6, 0, none⟩) y128.length co49) y149 := (by rw [hw, Ny149.out]; exact HP54.1); clear HP54; have n0_ := Aside0.mk (Kd.R_over' (v := (.slice (some ⟨go6, 0, none⟩) y128.length co49)) (rr_ HO127) (Kd.R_typed HO130.out) (by decide) hg); have n1_ := Aside0.mk (hp_); have n2_ := Aside0.mk (Kd.R_over' (v := (.slice (some ⟨go6, 0, none⟩) y128.length co49)) (rr_ HO135) (Kd.R_typed HO130.out) (by decide) hg); have n3_ := Aside0.mk (Kd.R_over' (v := (.slice (some ⟨go6, 0, none⟩) y128.length co49)) (rr_ HO139) (Kd.R_typed HO130.out) (by decide) hg); have n4_ := Aside0.mk (Kd.R_over' (v := (.slice (some ⟨go6, 0, none⟩) y128.length co49)) (rr_ HO144) (Kd.R_typed HO130.out) (by decide) hg); have n5_ := Aside0.mk (Kd.R_over' (v := (.slice (some ⟨go6, 0, none⟩) y128.length co49)) (rr_ HO148) (Kd.R_typed HO130.out) (by decide) hg); have n6_ := Aside0.mk ((by rw [hw]; exact below_set (HB.out) GB6.out : Below w.heap.size w w55)); clear HO127; clear HO130; clear HO135; clear HO139; clear HO144; clear HO148; clear HB; have HO127 := n0_; have HO130 := n1_; have HO135 := n2_; have HO139 := n3_; have HO144 := n4_; have HO148 := n5_; have HB := n6_; clear n0_ n1_ n2_ n3_ n4_ n5_ n6_; clear hg hw hp_) | ((with_reducible refine gate_callee (f := 13) rfl ?_); refine goesL_ (some 59) rfl rfl Try.func13 (by kernel_rfl) rfl #[.slice Ao48 y125.length co48, .slice (some ⟨go6, 0, none⟩) y149.length co49, .int .i64 3] rfl (by (try simp only [List.map_toArray, List.map_cons, List.map_nil]); first | done | (rw [show y149.length = y128.length from (Kd.R_reads' HO130.out).1.symm] <;> rfl) | rfl | (simp only [List.length_drop, List.length_take]; rfl)) ?_; (with_reducible refine (leak_Explain.calls _ _ y125 _ _ y149 3 t150 true t152 _ ?side1 ?side2 ?side3 ?side4 A7.out).mono ?_); (case side1 => exact cc_ ((Kd.R_reads' HO127.out).2.2)); (case side2 => exact (Kd.R_reads' HO127.out).2.1); (case side3 => exact cc_ ((Kd.R_reads' HO130.out).2.2)); (case side4 => rw [show y149.length = y128.length from (Kd.R_reads' HO130.out).1.symm]; exact (Kd.R_reads' HO130.out).2.1); rintro e w56 ⟨v153, rfl, ho0, hb⟩; refine ⟨_, rfl, ?_⟩; have n0_ := Aside0.mk (Kd.R_below (rr_ HO127) hb); have n1_ := Aside0.mk (Kd.R_below (rr_ HO130) hb); have n2_ := Aside0.mk (Kd.R_elder' (rr_ HO135) (Kd.R_base ho0) hb); have n3_ := Aside0.mk (Kd.R_elder' (rr_ HO139) (Kd.R_base ho0) hb); have n4_ := Aside0.mk (Kd.R_elder' (rr_ HO144) (Kd.R_base ho0) hb); have n5_ := Aside0.mk (Kd.R_elder' (rr_ HO148) (Kd.R_base ho0) hb); have n6_ := Aside0.mk (Kd.R_lower (Kd.R_new' (Kd.R_new' (Kd.R_new' (Kd.R_new' ho0 (Kd.R_lt (rr_ HO135))) (Kd.R_lt (rr_ HO139))) (Kd.R_lt (rr_ HO144))) (Kd.R_lt (rr_ HO148))) (below_size (bb_ HB))); have n7_ := Aside0.mk (below_step (bb_ HB) hb); clear HO127; clear HO130; clear HO135; clear HO139; clear HO144; clear HO148; clear HB; have HO127 := n0_; have HO130 := n1_; have HO135 := n2_; have HO139 := n3_; have HO144 := n4_; have HO148 := n5_; have HO154 := n6_; have HB := n7_; clear n0_ n1_ n2_ n3_ n4_ n5_ n6_ n7_; (try clear hb); (try clear hb2); (try clear hk); (try clear hi); (try clear ho0)) | ((with_reducible refine gate_callee (f := 13) rfl ?_); refine goesL_ (some 66) rfl rfl Try.func13 (by kernel_rfl) rfl #[.slice Ao48 y125.length co48, .slice (some ⟨go6, 0, none⟩) y149.length co49, .int .i64 4] rfl (by (try simp only [List.map_toArray, List.map_cons, List.map_nil]); first | done | (rw [show y149.length = y128.length from (Kd.R_reads' HO130.out).1.symm] <;> rfl) | rfl | (simp only [List.length_drop, List.length_take]; rfl)) ?_; (with_reducible refine (leak_Explain.calls _ _ y125 _ _ y149 4 t155 t156 t157 _ ?side1 ?side2 ?side3 ?side4 A8.out).mono ?_); (case side1 => exact cc_ ((Kd.R_reads' HO127.out).2.2)); (case side2 => exact (Kd.R_reads' HO127.out).2.1); (case side3 => exact cc_ ((Kd.R_reads' HO130.out).2.2)); (case side4 => rw [show y149.length = y128.length from (Kd.R_reads' HO130.out).1.symm]; exact (Kd.R_reads' HO130.out).2.1); rintro e w57 ⟨v158, rfl, ho0, hb⟩; refine ⟨_, rfl, ?_⟩; have n0_ := Aside0.mk (Kd.R_below (rr_ HO127) hb); have n1_ := Aside0.mk (Kd.R_below (rr_ HO130) hb); have n2_ := Aside0.mk (Kd.R_elder' (rr_ HO135) (Kd.R_base ho0) hb); have n3_ := Aside0.mk (Kd.R_elder' (rr_ HO139) (Kd.R_base ho0) hb); have n4_ := Aside0.mk (Kd.R_elder' (rr_ HO144) (Kd.R_base ho0) hb); have n5_ := Aside0.mk (Kd.R_elder' (rr_ HO148) (Kd.R_base ho0) hb); have n6_ := Aside0.mk (Kd.R_elder' (rr_ HO154) (Kd.R_base ho0) hb); have n7_ := Aside0.mk (Kd.R_lower (Kd.R_new' (Kd.R_new' (Kd.R_new' (Kd.R_new' (Kd.R_new' ho0 (Kd.R_lt (rr_ HO135))) (Kd.R_lt (rr_ HO139))) (Kd.R_lt (rr_ HO144))) (Kd.R_lt (rr_ HO148))) (Kd.R_lt (rr_ HO154))) (below_size (bb_ HB))); have n8_ := Aside0.mk (below_step (bb_ HB) hb); clear HO127; clear HO130; clear HO135; clear HO139; clear HO144; clear HO148; clear HO154; clear HB; have HO127 := n0_; have HO130 := n1_; have HO135 := n2_; have HO139 := n3_; have HO144 := n4_; have HO148 := n5_; have HO154 := n6_; have HO159 := n7_; have HB := n8_; clear n0_ n1_ n2_ n3_ n4_ n5_ n6_ n7_ n8_; (try clear hb); (try clear hb2); (try clear hk); (try clear hi); (try clear ho0)) | ((with_reducible refine gate_dst (N := 77) rfl ?_); (try (refine gate_guard (by rfl) ?_; dsimp only)); refine Kd.R_lit (Kd.int .i64) _ 3 ?hg (N := 77) ?hd (xs := ([0] : List Int)) (inner := [.int .i64 0]) (ok := fun _ => True) (okp := fun _ => True) ?hr ?hp (fun _ hk => hk) trivial (Below.refl _ _) (Nat.le_refl _) (by simp) ?_; (case hd => rfl); (case hg => rfl); (case hr => first | (go_simp; done) | (go_simp; rfl)); (case hp => exact (Reps.one (show Kd.M (Kd.int .i64) _ _ _ 0 [.int .i64 0] from rfl) (Reps.none _ _))); intro v161 w58 ho59 hb hg_ hnew_; clear hg_ hnew_; (first | rw [← Ny160.out] at ho59 | (simp only [Int.reduceToNat] at ho59; rw [← Ny160.out] at ho59)); have n0_ := Aside0.mk (Kd.R_below (rr_ HO127) hb); have n1_ := Aside0.mk (Kd.R_below (rr_ HO130) hb); have n2_ := Aside0.mk (Kd.R_elder' (rr_ HO135) (Kd.R_base ho59) hb); have n3_ := Aside0.mk (Kd.R_elder' (rr_ HO139) (Kd.R_base ho59) hb); have n4_ := Aside0.mk (Kd.R_elder' (rr_ HO144) (Kd.R_base ho59) hb); have n5_ := Aside0.mk (Kd.R_elder' (rr_ HO148) (Kd.R_base ho59) hb); have n6_ := Aside0.mk (Kd.R_elder' (rr_ HO154) (Kd.R_base ho59) hb); have n7_ := Aside0.mk (Kd.R_elder' (rr_ HO159) (Kd.R_base ho59) hb); have n8_ := Aside0.mk (Kd.R_lower (Kd.R_new' (Kd.R_new' (Kd.R_new' (Kd.R_new' (Kd.R_new' (Kd.R_new' ho59 (Kd.R_lt (rr_ HO135))) (Kd.R_lt (rr_ HO139))) (Kd.R_lt (rr_ HO144))) (Kd.R_lt (rr_ HO148))) (Kd.R_lt (rr_ HO154))) (Kd.R_lt (rr_ HO159))) (below_size (bb_ HB))); have n9_ := Aside0.mk (below_step (bb_ HB) hb); clear HO127; clear HO130; clear HO135; clear HO139; clear HO144; clear HO148; clear HO154; clear HO159; clear HB; have HO127 := n0_; have HO130 := n1_; have HO135 := n2_; have HO139 := n3_; have HO144 := n4_; have HO148 := n5_; have HO154 := n6_; have HO159 := n7_; have HO162 := n8_; have HB := n9_; clear n0_ n1_ n2_ n3_ n4_ n5_ n6_ n7_ n8_ n9_; clear hb ho59; obtain ⟨Ao60, co60, eo60⟩ := Kd.R_slice HO135.out; subst eo60; obtain ⟨Ao61, co61, eo61⟩ := Kd.R_slice HO162.out; subst eo61) | (go_at_call 15; (with_reducible refine (cohousingref30_Same.calls k _ _ t131 _ _ y160 true _ ?side1 ?side2 ?side3 ?side4 A11.out).mono ?_); (case side1 => exact cc_ ((Kd.R_reads' HO135.out).2.2)); (case side2 => exact (Kd.R_reads' HO135.out).2.1); (case side3 => exact cc_ ((Kd.R_reads' HO162.out).2.2)); (case side4 => exact (Kd.R_reads' HO162.out).2.1); rintro e w' ⟨rfl, ⟨nd, rfl⟩⟩) | ((with_reducible refine gate_dst (N := 86) rfl ?_); (try (refine gate_guard (by rfl) ?_; dsimp only)); refine Kd.R_lit (Kd.int .i64) _ 3 ?hg (N := 86) ?hd (xs := ([0] : List Int)) (inner := [.int .i64 0]) (ok := fun _ => True) (okp := fun _ => True) ?hr ?hp (fun _ hk => hk) trivial (Below.refl _ _) (Nat.le_refl _) (by simp) ?_; (case hd => rfl); (case hg => rfl); (case hr => first | (go_simp; done) | (go_simp; rfl)); (case hp => exact (Reps.one (show Kd.M (Kd.int .i64) _ _ _ 0 [.int .i64 0] from rfl) (Reps.none _ _))); intro v165 w62 ho63 hb hg_ hnew_; clear hg_ hnew_; (first | rw [← Ny164.out] at ho63 | (simp only [Int.reduceToNat] at ho63; rw [← Ny164.out] at ho63)); have n0_ := Aside0.mk (Kd.R_below (rr_ HO127) hb); have n1_ := Aside0.mk (Kd.R_below (rr_ HO130) hb); have n2_ := Aside0.mk (Kd.R_elder' (rr_ HO135) (Kd.R_base ho63) hb); have n3_ := Aside0.mk (Kd.R_elder' (rr_ HO139) (Kd.R_base ho63) hb); have n4_ := Aside0.mk (Kd.R_elder' (rr_ HO144) (Kd.R_base ho63) hb); have n5_ := Aside0.mk (Kd.R_elder' (rr_ HO148) (Kd.R_base ho63) hb); have n6_ := Aside0.mk (Kd.R_elder' (rr_ HO154) (Kd.R_base ho63) hb); have n7_ := Aside0.mk (Kd.R_elder' (rr_ HO159) (Kd.R_base ho63) hb); have n8_ := Aside0.mk (Kd.R_elder' (rr_ HO162) (Kd.R_base ho63) hb); have n9_ := Aside0.mk (Kd.R_lower (Kd.R_new' (Kd.R_new' (Kd.R_new' (Kd.R_new' (Kd.R_new' (Kd.R_new' (Kd.R_new' ho63 (Kd.R_lt (rr_ HO135))) (Kd.R_lt (rr_ HO139))) (Kd.R_lt (rr_ HO144))) (Kd.R_lt (rr_ HO148))) (Kd.R_lt (rr_ HO154))) (Kd.R_lt (rr_ HO159))) (Kd.R_lt (rr_ HO162))) (below_size (bb_ HB))); have n10_ := Aside0.mk (below_step (bb_ HB) hb); clear HO127; clear HO130; clear HO135; clear HO139; clear HO144; clear HO148; clear HO154; clear HO159; clear HO162; clear HB; have HO127 := n0_; have HO130 := n1_; have HO135 := n2_; have HO139 := n3_; have HO144 := n4_; have HO148 := n5_; have HO154 := n6_; have HO159 := n7_; have HO162 := n8_; have HO166 := n9_; have HB := n10_; clear n0_ n1_ n2_ n3_ n4_ n5_ n6_ n7_ n8_ n9_ n10_; clear hb ho63; obtain ⟨Ao64, co64, eo64⟩ := Kd.R_slice HO139.out; subst eo64; obtain ⟨Ao65, co65, eo65⟩ := Kd.R_slice HO166.out; subst eo65) | (go_at_call 15; (with_reducible refine (cohousingref30_Same.calls k _ _ t136 _ _ y164 true _ ?side1 ?side2 ?side3 ?side4 A14.out).mono ?_); (case side1 => exact cc_ ((Kd.R_reads' HO139.out).2.2)); (case side2 => exact (Kd.R_reads' HO139.out).2.1); (case side3 => exact cc_ ((Kd.R_reads' HO166.out).2.2)); (case side4 => exact (Kd.R_reads' HO166.out).2.1); rintro e w' ⟨rfl, ⟨nd, rfl⟩⟩; obtain ⟨Ao66, co66, eo66⟩ := Kd.R_slice HO154.out; subst eo66))
             go_ret
             exact ⟨ew_, by repeat (first | (with_reducible first | exact HB.out | apply below_alloc | apply pw_below_drewN | apply below_drew1) | exact HB.out)⟩
            ·rw [if_neg c43] at H
             have c43b0 : ((t150.length : Int) == 0) = false := beq_eq_false_iff_ne.mpr c43
             have c43b1 : ((t150.length : Int) != 0) = true := bne_iff_ne.mpr c43
             have c43b2 : ¬ (t150 = []) := fun h_ => c43 (by rw [h_]; rfl)
             exact absurd (Option.some.inj H) (by decide)
           ·replace c42 := Bool.eq_false_iff.mpr c42
            subst c42
            have H1 : (some false) = some true := by rw [if_neg (show ¬ (false = true) by decide)] at H; exact H
            clear H
            have H := H1
            clear H1
            exact absurd (Option.some.inj H) (by decide)
          ·rw [if_neg c41] at H
           have c41b0 : (t152 == 0) = false := beq_eq_false_iff_ne.mpr c41
           have c41b1 : (t152 != 0) = true := bne_iff_ne.mpr c41
           exact absurd (Option.some.inj H) (by decide)
         ·rw [if_neg c40] at H
          have c40b0 : (t146 == 4) = false := beq_eq_false_iff_ne.mpr c40
          have c40b1 : (t146 != 4) = true := bne_iff_ne.mpr c40
          exact absurd (Option.some.inj H) (by decide)
       ·rw [if_neg c16] at H
        have c16b0 : (t142 == 0) = false := beq_eq_false_iff_ne.mpr c16
        have c16b1 : (t142 != 0) = true := bne_iff_ne.mpr c16
        exact absurd (Option.some.inj H) (by decide)
      ·replace c15 := Bool.eq_false_iff.mpr c15
       subst c15
       have H1 : (some false) = some true := by rw [if_neg (show ¬ (false = true) by decide)] at H; exact H
       clear H
       have H := H1
       clear H1
       exact absurd (Option.some.inj H) (by decide)
     ·rw [if_neg c13] at H
      have c13b0 : (t137 == 0) = false := beq_eq_false_iff_ne.mpr c13
      have c13b1 : (t137 != 0) = true := bne_iff_ne.mpr c13
      exact absurd (Option.some.inj H) (by decide)
    ·replace c12 := Bool.eq_false_iff.mpr c12
     subst c12
     have H1 : (some false) = some true := by rw [if_neg (show ¬ (false = true) by decide)] at H; exact H
     clear H
     have H := H1
     clear H1
     exact absurd (Option.some.inj H) (by decide)
   ·replace c10 := Bool.eq_false_iff.mpr c10
    subst c10
    have H1 : (some false) = some true := by rw [if_neg (show ¬ (false = true) by decide)] at H; exact H
    clear H
    have H := H1
    clear H1
    exact absurd (Option.some.inj H) (by decide)
  ·rw [if_neg c9] at H
   have c9b0 : (t133 == 0) = false := beq_eq_false_iff_ne.mpr c9
   have c9b1 : (t133 != 0) = true := bne_iff_ne.mpr c9
   exact absurd (Option.some.inj H) (by decide)
 ·rw [if_neg c5] at H
  exact absurd H (by simp)
end
section
def cohousingref30_Few.f (l0 : List (S44)) (l1 : List (S46)) : Option (Bool) := if (l0.length : Int) ≤ 12 then (some (decide ((l1.length : Int) ≤ 20))) else (some false)
theorem cohousingref30_Few.calls (A0 : Option Addr) (c0 : Nat) (l0 : List (S44)) (A1 : Option Addr) (c1 : Nat) (l1 : List (S46)) (r : Bool) (w : World) (hr0 : Kd.C k44 w A0 l0.length l0) (hc0 : l0.length ≤ c0) (hr1 : Kd.C k46 w A1 l1.length l1) (hc1 : l1.length ≤ c1) (h : cohousingref30_Few.f l0 l1 = some r) :
  Calls Try.prog 12 #[.slice A0 l0.length c0, .slice A1 l1.length c1] w fun e w' => e = .returned (.bool r) ∧ Drawn0 w w' := by
 have HR0 := Aside0.mk hr0
 have HC0 := Aside0.mk hc0
 clear hr0 hc0
 have HR1 := Aside0.mk hr1
 have HC1 := Aside0.mk hc1
 clear hr1 hc1
 have H : (if (l0.length : Int) ≤ 12 then (some (decide ((l1.length : Int) ≤ 20))) else (some false)) = some r := h
 clear h
 by_cases c3 : (l0.length : Int) ≤ 12
 ·rw [if_pos c3] at H
  have c3b0 : decide ((l0.length : Int) ≤ 12) = true := decide_eq_true c3
  have c3b1 : decide (l0.length ≤ 12) = true := decide_eq_true (by omega)
  clear c3
  obtain rfl := Option.some.inj H
  go_enter Try.func12, Try.ntmps12
  go_wp2
  go_ret
  exact ⟨by first | rfl | (simp; done) | (simp [*]; done), by repeat (first | exact Drawn0.refl _ | apply Drawn0.step)⟩
 ·rw [if_neg c3] at H
  have c3b0 : decide ((l0.length : Int) ≤ 12) = false := decide_eq_false c3
  have c3b1 : decide (l0.length ≤ 12) = false := decide_eq_false (by omega)
  clear c3
  obtain rfl := Option.some.inj H
  go_enter Try.func12, Try.ntmps12
  go_wp2
  go_ret
  exact ⟨by first | rfl | (simp; done) | (simp [*]; done), by repeat (first | exact Drawn0.refl _ | apply Drawn0.step)⟩
end
section
def cohousingref28_At.l0 : Nat → List (S44) → Int → Int → Option (Int)
 | 0, _, _, _ => none
 | k + 1, x0, x1, x5 => if x5 < (x0.length : Int) then (if 0 ≤ x5 then (if ((rd_T44 x0 x5).f0) = x1 then (some x5) else (cohousingref28_At.l0 k x0 x1 (wrap64 (x5 + 1)))) else (none)) else (some (-1))
def cohousingref28_At.f (k : Nat) (l0 : List (S44)) (a1 : Int) : Option (Int) := cohousingref28_At.l0 k l0 a1 0
theorem cohousingref28_At.calls (k : Nat) (A0 : Option Addr) (c0 : Nat) (l0 : List (S44)) (a1 : Int) (r : Int) (w : World) (hr0 : Kd.C k44 w A0 l0.length l0) (hc0 : l0.length ≤ c0) (h : cohousingref28_At.f k l0 a1 = some r) :
  Calls Try.prog 25 #[.slice A0 l0.length c0, .int .i64 a1] w fun e w' => e = .returned (.int .i64 r) ∧ Drawn0 w w' := by
 have HR0 := Aside0.mk hr0
 have HC0 := Aside0.mk hc0
 clear hr0 hc0
 have H : (cohousingref28_At.l0 k l0 a1 0) = some r := h
 clear h
 have H' := Aside0.mk H
 clear H
 go_enter Try.func25, Try.ntmps25
 go_wp2
 go_loopg [5] k (fun kq v5 w' => ∃ (x5_1 : Int), v5 = .int .i64 x5_1 ∧ Aside0 (cohousingref28_At.l0 kq l0 a1 x5_1 = some r) ∧ Aside0 (kq ≤ k) ∧ Drawn0 w w')
 case atStart => exact ⟨(0), sd_, H', ⟨Nat.le_refl _⟩, by repeat (first | exact Drawn0.refl _ | apply Drawn0.step)⟩
 case round =>
  clear H'
  try clear c2
  try clear p2
  obtain ⟨x5_1, rfl, HA, HK1, ⟨m1, rfl⟩⟩ := hrel
  cases gk with
  | zero => exact absurd HA.out (by simp [cohousingref28_At.l0])
  | succ k1 =>
   have H := HA.out
   clear HA
   simp only [cohousingref28_At.l0] at H
   by_cases c3 : x5_1 < (l0.length : Int)
   ·rw [if_pos c3] at H
    have c3b0 : decide (x5_1 < (l0.length : Int)) = true := decide_eq_true c3
    clear c3
    by_cases c4 : 0 ≤ x5_1
    ·rw [if_pos c4] at H
     have c4b0 : decide (0 ≤ x5_1) = true := decide_eq_true c4
     clear c4
     by_cases c5 : ((rd_T44 l0 x5_1).f0) = a1
     ·rw [if_pos c5] at H
      have c5b0 : (((rd_T44 l0 x5_1).f0) == a1) = true := beq_iff_eq.mpr c5
      have c5b1 : (((rd_T44 l0 x5_1).f0) != a1) = false := bne_eq_false_iff_eq.mpr c5
      clear c5
      obtain rfl := Option.some.inj H
      have p168 : 0 ≤ (x5_1 : Int) := od_
      have q168 : x5_1 < (l0.length : Int) := od_
      obtain ⟨ad168, e168, hx168_0, hx168_1, hx168_2⟩ := at_T44 HR0.out x5_1 p168 q168
      cases e168
      replace p168 := eq_true p168
      replace q168 := eq_true q168
      go_wp2
      go_ret
      exact ⟨by first | rfl | (simp; done) | (simp [*]; done), by repeat (first | exact Drawn0.refl _ | apply Drawn0.step)⟩
     ·rw [if_neg c5] at H
      have c5b0 : (((rd_T44 l0 x5_1).f0) == a1) = false := beq_eq_false_iff_ne.mpr c5
      have c5b1 : (((rd_T44 l0 x5_1).f0) != a1) = true := bne_iff_ne.mpr c5
      have H' := Aside0.mk H
      clear H
      have p168 : 0 ≤ (x5_1 : Int) := od_
      have q168 : x5_1 < (l0.length : Int) := od_
      obtain ⟨ad168, e168, hx168_0, hx168_1, hx168_2⟩ := at_T44 HR0.out x5_1 p168 q168
      cases e168
      replace p168 := eq_true p168
      replace q168 := eq_true q168
      go_wp2
      go_roundg k1
      case measure => have := HK1.out; omega
      case rel => exact ⟨(wrap64 (x5_1 + 1)), sd_, H', ⟨by have := HK1.out; omega⟩, by repeat (first | exact Drawn0.refl _ | apply Drawn0.step)⟩
    ·rw [if_neg c4] at H
     exact absurd H (by simp)
   ·rw [if_neg c3] at H
    have c3b0 : decide (x5_1 < (l0.length : Int)) = false := decide_eq_false c3
    clear c3
    obtain rfl := Option.some.inj H
    go_wp2
    go_ret
    exact ⟨by first | rfl | (simp; done) | (simp [*]; done), by repeat (first | exact Drawn0.refl _ | apply Drawn0.step)⟩
end
section
def cohousingref28_Volume.f (a0 : Int) : Option (Bool) := if a0 ≥ 0 then (some (decide (a0 ≤ 1000000000))) else (some false)
theorem cohousingref28_Volume.calls (a0 : Int) (r : Bool) (w : World) (h : cohousingref28_Volume.f a0 = some r) :
  Calls Try.prog 40 #[.int .i64 a0] w fun e w' => e = .returned (.bool r) ∧ Drawn0 w w' := by
 have H : (if a0 ≥ 0 then (some (decide (a0 ≤ 1000000000))) else (some false)) = some r := h
 clear h
 by_cases c2 : a0 ≥ 0
 ·rw [if_pos c2] at H
  have c2b0 : decide (0 ≤ a0) = true := decide_eq_true c2
  clear c2
  obtain rfl := Option.some.inj H
  go_enter Try.func40, Try.ntmps40
  go_wp2
  go_ret
  exact ⟨by first | rfl | (simp; done) | (simp [*]; done), by repeat (first | exact Drawn0.refl _ | apply Drawn0.step)⟩
 ·rw [if_neg c2] at H
  have c2b0 : decide (0 ≤ a0) = false := decide_eq_false c2
  clear c2
  obtain rfl := Option.some.inj H
  go_enter Try.func40, Try.ntmps40
  go_wp2
  go_ret
  exact ⟨by first | rfl | (simp; done) | (simp [*]; done), by repeat (first | exact Drawn0.refl _ | apply Drawn0.step)⟩
end
section
mutual
def cohousingref28_Valid.l0 : Nat → List (S44) → Int → Option (Bool)
 | 0, _, _ => none
 | k + 1, x0, x3 => if x3 < (x0.length : Int) then (if 0 ≤ x3 then (if ((rd_T44 x0 x3).f0) < 1 then (cohousingref28_Valid.j1 k x0 x3 true) else (if x3 > 0 then (if 0 ≤ (wrap64 (x3 - 1)) then (if (wrap64 (x3 - 1)) < (x0.length : Int) then (if ((rd_T44 x0 x3).f0) ≤ ((rd_T44 x0 (wrap64 (x3 - 1))).f0) then (cohousingref28_Valid.j1 k x0 x3 true) else ((cohousingref28_Volume.f ((rd_T44 x0 x3).f2)).bind fun t173 => (cohousingref28_Valid.j1 k x0 x3 (!t173)))) else (none)) else (none)) else ((cohousingref28_Volume.f ((rd_T44 x0 x3).f2)).bind fun t175 => (cohousingref28_Valid.j1 k x0 x3 (!t175))))) else (none)) else (some (decide ((x0.length : Int) ≤ 200)))
def cohousingref28_Valid.j1 : Nat → List (S44) → Int → Bool → Option (Bool)
 | 0, _, _, _ => none
 | k + 1, x0, x3, x42 => if x42 = true then (some false) else (if 0 ≤ x3 then (if x3 < (x0.length : Int) then (if ((rd_T44 x0 x3).f1) = 0 then (cohousingref28_Valid.l0 k x0 (wrap64 (x3 + 1))) else (if x3 ≤ (x0.length : Int) then ((cohousingref28_At.f k (x0.take (x3 : Int).toNat) ((rd_T44 x0 x3).f1)).bind fun t182 => (if t182 < 0 then (some false) else (cohousingref28_Valid.l0 k x0 (wrap64 (x3 + 1))))) else (none))) else (none)) else (none))
end
def cohousingref28_Valid.f (k : Nat) (l0 : List (S44)) : Option (Bool) := cohousingref28_Valid.l0 k l0 0
def cohousingref28_Valid.T4 : Bool × List (List Nat × List Nat) := (true, [([], []), ([], []), ([0, 1], [0, 1]), ([2], [2]), ([3], [3]), ([4], [4]), ([5], [5]), ([6], [6]), ([7, 6], [6, 7]), ([8, 6, 6], [6, 8]), ([9], [9]), ([9], [9]), ([10, 11, 9], [9, 10, 11]), ([12, 9], [9, 12]), ([13, 9], [9, 13]), ([9], [9]), ([9], [9]), ([16, 9], [9, 16]), ([15, 17, 9], [9, 15, 17]), ([18, 9], [9, 18]), ([19, 9], [9, 19]), ([14, 20, 9], [9, 14, 20]), ([9, 21, 6], [6, 9, 21]), ([6, 22], [6, 22]), ([23, 9], [23]), ([24], [24]), ([24], [24]), ([25, 26, 24], [24, 25, 26]), ([27, 24], [24, 27]), ([28, 24], [24, 28]), ([29, 24, 24], [24, 29]), ([30, 24], [24, 30]), ([24, 31], [24, 31])])
def cohousingref28_Valid.B4 : List Nat := [0, 0, 3, 7, 15, 31, 63, 127, 255, 511, 1023, 1023, 4095, 8191, 16383, 1023, 1023, 66559, 230399, 492543, 1016831, 2097151, 4194303, 8388607, 16777215, 33554431, 33554431, 134217727, 268435455, 536870911, 1073741823, 2147483647, 4294967295]
theorem cohousingref28_Valid.tab4 : rtab .any (opsOf Try.f23 4) = cohousingref28_Valid.T4 := by kernel_rfl
theorem cohousingref28_Valid.bits4 : waitsOk cohousingref28_Valid.T4.2 cohousingref28_Valid.B4 = true := by kernel_rfl
def cohousingref28_Valid.T6 : Bool × List (List Nat × List Nat) := (true, [([], []), ([], []), ([0, 1], [0, 1]), ([2], [2]), ([3], [3]), ([4], [4]), ([5], [5]), ([6], [6]), ([6], [6]), ([7, 8, 6], [6, 7, 8]), ([6], [6]), ([6], [6]), ([10, 11, 6], [6, 10, 11]), ([12, 6], [6, 12]), ([13, 6], [6, 13]), ([9, 14, 6, 6], [6, 9, 14]), ([15, 6], [6, 15]), ([6, 16], [6, 16])])
def cohousingref28_Valid.B6 : List Nat := [0, 0, 3, 7, 15, 31, 63, 127, 127, 511, 127, 127, 3199, 7295, 15487, 32767, 65535, 131071]
theorem cohousingref28_Valid.tab6 : rtab .any (opsOf Try.f23 6) = cohousingref28_Valid.T6 := by kernel_rfl
theorem cohousingref28_Valid.bits6 : waitsOk cohousingref28_Valid.T6.2 cohousingref28_Valid.B6 = true := by kernel_rfl
theorem cohousingref28_Valid.calls (k : Nat) (A0 : Option Addr) (c0 : Nat) (l0 : List (S44)) (r : Bool) (w : World) (hr0 : Kd.C k44 w A0 l0.length l0) (hc0 : l0.length ≤ c0) (h : cohousingref28_Valid.f k l0 = some r) :
  Calls Try.prog 23 #[.slice A0 l0.length c0] w fun e w' => e = .returned (.bool r) ∧ Below w.heap.size w w' := by
 have HR0 := Aside0.mk hr0
 have HC0 := Aside0.mk hc0
 clear hr0 hc0
 have HB := Aside0.mk (Below.refl w.heap.size w)
 have H : (cohousingref28_Valid.l0 k l0 0) = some r := h
 clear h
 have H' := Aside0.mk H
 clear H
 go_enter Try.func23, Try.ntmps23
 go_wp2
 go_loopg [3] k (fun kq v3 w' => ∃ (x3_1 : Int), v3 = .int .i64 x3_1 ∧ Aside0 (cohousingref28_Valid.l0 kq l0 x3_1 = some r) ∧ Aside0 (kq ≤ k) ∧ Aside0 (Below w.heap.size w w'))
 case atStart => exact ⟨(0), sd_, H', ⟨Nat.le_refl _⟩, ⟨by repeat (first | (with_reducible first | exact HB.out | apply below_alloc | apply pw_below_drewN | apply below_drew1) | exact HB.out)⟩⟩
 case round =>
  clear H'
  obtain ⟨x3_1, rfl, HA, HK1, HB⟩ := hrel
  cases gk with
  | zero => exact absurd HA.out (by simp [cohousingref28_Valid.l0])
  | succ k1 =>
   have H := HA.out
   clear HA
   simp only [cohousingref28_Valid.l0] at H
   by_cases c2 : x3_1 < (l0.length : Int)
   ·rw [if_pos c2] at H
    have c2b0 : decide (x3_1 < (l0.length : Int)) = true := decide_eq_true c2
    clear c2
    have HC3 := Aside0.mk H
    clear H
    go_upto_region 4 with (fail)
    go_cut [42] (fun v42 wc => ∃ (kq : Nat) (x42_2 : Bool), v42 = .bool x42_2 ∧ Aside0 (cohousingref28_Valid.j1 kq l0 x3_1 x42_2 = some r) ∧ Aside0 (kq ≤ k1) ∧ Aside0 (Below w.heap.size w wc))
    case first =>
     have H := HC3.out
     clear HC3
     by_cases c4 : 0 ≤ x3_1
     ·rw [if_pos c4] at H
      have c4b0 : decide (0 ≤ x3_1) = true := decide_eq_true c4
      clear c4
      (first | rw [c4b0] | (simp only [i64_w, i32_w]; rw [c4b0]) | skip)
      by_cases c5 : ((rd_T44 l0 x3_1).f0) < 1
      ·rw [if_pos c5] at H
       have c5b0 : decide (((rd_T44 l0 x3_1).f0) < 1) = true := decide_eq_true c5
       clear c5
       have H' := Aside0.mk H
       clear H
       try go_wp2
       have n0_ := Aside0.mk (below_drew1 HB.out)
       clear HB
       have HB := n0_
       clear n0_
       have p169 : 0 ≤ (x3_1 : Int) := od_
       have q169 : x3_1 < (l0.length : Int) := od_
       obtain ⟨ad169, e169, hx169_0, hx169_1, hx169_2⟩ := at_T44 HR0.out x3_1 p169 q169
       have hw169_2 := hx169_2
       have hw169_1 := hx169_1
       have hw169_0 := hx169_0
       cases e169
       replace hx169_0 := (HB.out.cell (World.block_lt_of_cell? w _ hx169_0)).trans hx169_0
       replace hx169_1 := (HB.out.cell (World.block_lt_of_cell? w _ hx169_1)).trans hx169_1
       replace hx169_2 := (HB.out.cell (World.block_lt_of_cell? w _ hx169_2)).trans hx169_2
       replace p169 := eq_true p169
       replace q169 := eq_true q169
       refine start_ (n := 33) (S := fun w' => w'.cell? (ad169.add ((x3_1).toNat * 3)) = some (.int .i64 ((rd_T44 l0 x3_1).f0)) ∧ w'.cell? ⟨(ad169.add ((x3_1).toNat * 3)).block, (ad169.add ((x3_1).toNat * 3)).off + 1, none⟩ = some (.int .i64 ((rd_T44 l0 x3_1).f1)) ∧ w'.cell? ⟨(ad169.add ((x3_1).toNat * 3)).block, (ad169.add ((x3_1).toNat * 3)).off + 2, none⟩ = some (.int .i64 ((rd_T44 l0 x3_1).f2))) (ds := []) #[n_, n_, n_, n_, n_, n_, n_, n_, n_, n_, n_, n_, n_, n_, n_, n_, n_, n_, n_, n_, n_, n_, n_, n_, n_, n_, n_, n_, n_, n_, n_, n_, n_] (by kernel_rfl) rfl rfl ⟨((HB.out.cell (World.block_lt_of_cell? w _ hw169_0)).trans hw169_0), ((HB.out.cell (World.block_lt_of_cell? w _ hw169_1)).trans hw169_1), ((HB.out.cell (World.block_lt_of_cell? w _ hw169_2)).trans hw169_2)⟩ (fun hHeld => ?_); refine with_tabW cohousingref28_Valid.tab4 cohousingref28_Valid.bits4 (fun HT_ HW_ => ?_)
       generalize wr.drew = w6 at HB hx169_0 hx169_1 hx169_2 hHeld ⊢
       refine pu_ 0 10 (w_ 33 1) rfl HT_ ?_
       refine pu_ 1 11 (w_ 33 3) rfl HT_ ?_
       refine pu_ 2 12 (w_ 33 7) rfl HT_ ?_
       refine pu_ 3 13 (w_ 33 15) rfl HT_ ?_
       refine ta_ 4 14 (w_ 33 31) rfl HT_ HW_ hHeld (by rintro w' ⟨s0, s1, s2⟩; go_simp; with_reducible rfl) ?_
       refine pu_ 5 15 (w_ 33 63) rfl HT_ ?_
       refine pu_ 6 16 (w_ 33 127) rfl HT_ ?_
       refine pn_ 7 17 (w_ 33 255) rfl HT_ ?_
       refine pn_ 8 18 (w_ 33 511) rfl HT_ ?_
       refine pn_ 9 19 (w_ 33 1023) rfl HT_ ?_
       refine pn_ 10 20 (w_ 33 2047) rfl HT_ ?_
       refine pn_ 11 21 (w_ 33 4095) rfl HT_ ?_
       refine pn_ 12 22 (w_ 33 8191) rfl HT_ ?_
       refine pn_ 13 23 (w_ 33 16383) rfl HT_ ?_
       refine pn_ 14 24 (w_ 33 32767) rfl HT_ ?_
       refine pn_ 15 25 (w_ 33 65535) rfl HT_ ?_
       refine pn_ 16 26 (w_ 33 131071) rfl HT_ ?_
       refine pn_ 17 27 (w_ 33 262143) rfl HT_ ?_
       refine pn_ 18 28 (w_ 33 524287) rfl HT_ ?_
       refine pn_ 19 29 (w_ 33 1048575) rfl HT_ ?_
       refine pn_ 20 30 (w_ 33 2097151) rfl HT_ ?_
       refine pn_ 21 31 (w_ 33 4194303) rfl HT_ ?_
       refine pn_ 22 32 (w_ 33 8388607) rfl HT_ ?_
       refine pu_ 23 33 (w_ 33 16777215) rfl HT_ ?_
       refine pu_ 24 34 (w_ 33 33554431) rfl HT_ ?_
       refine pn_ 25 35 (w_ 33 67108863) rfl HT_ ?_
       refine pn_ 26 36 (w_ 33 134217727) rfl HT_ ?_
       refine pn_ 27 37 (w_ 33 268435455) rfl HT_ ?_
       refine pn_ 28 38 (w_ 33 536870911) rfl HT_ ?_
       refine pn_ 29 39 (w_ 33 1073741823) rfl HT_ ?_
       refine pn_ 30 40 (w_ 33 2147483647) rfl HT_ ?_
       refine pn_ 31 41 (w_ 33 4294967295) rfl HT_ ?_
       refine pu_ 32 42 (w_ 33 8589934591) rfl HT_ ?_
       refine done_ (done_of HT_.out (by kernel_rfl)) ?_
       try go_wp2
       go_meet
       case rel => exact ⟨_, (true), sd_, H', ⟨by have := HK1.out; first | omega | exact Nat.le_refl _⟩, ⟨by repeat (first | (with_reducible first | exact HB.out | apply below_alloc | apply pw_below_drewN | apply below_drew1) | exact HB.out)⟩⟩
      ·rw [if_neg c5] at H
       have c5b0 : decide (((rd_T44 l0 x3_1).f0) < 1) = false := decide_eq_false c5
       clear c5
       by_cases c7 : x3_1 > 0
       ·rw [if_pos c7] at H
        have c7b0 : decide (0 < x3_1) = true := decide_eq_true c7
        clear c7
        obtain ⟨ji8, hji8⟩ : ∃ j_ : Int, (wrap64 (x3_1 - 1)) = j_ := ⟨_, rfl⟩
        replace H : (if 0 ≤ (ji8) then (if (ji8) < (l0.length : Int) then (if ((rd_T44 l0 x3_1).f0) ≤ ((rd_T44 l0 (ji8)).f0) then (cohousingref28_Valid.j1 k1 l0 x3_1 true) else ((cohousingref28_Volume.f ((rd_T44 l0 x3_1).f2)).bind fun t173 => (cohousingref28_Valid.j1 k1 l0 x3_1 (!t173)))) else (none)) else (none)) = some r := by first | (rw [hji8] at H; exact H) | (simp only [hji8] at H ⊢; exact H)
        have hji8w : (IntKind.i64.wrap (x3_1 - 1)) = ji8 := (i64_w _).trans hji8
        by_cases c9 : 0 ≤ (ji8)
        ·rw [if_pos c9] at H
         have c9b0 : decide (0 ≤ (ji8)) = true := decide_eq_true c9
         clear c9
         by_cases c10 : (ji8) < (l0.length : Int)
         ·rw [if_pos c10] at H
          have c10b0 : decide ((ji8) < (l0.length : Int)) = true := decide_eq_true c10
          clear c10
          by_cases c11 : ((rd_T44 l0 x3_1).f0) ≤ ((rd_T44 l0 (ji8)).f0)
          ·rw [if_pos c11] at H
           have c11b0 : decide (((rd_T44 l0 x3_1).f0) ≤ ((rd_T44 l0 (ji8)).f0)) = true := decide_eq_true c11
           clear c11
           have H' := Aside0.mk H
           clear H
           try go_wp2
           have n0_ := Aside0.mk (below_drew1 HB.out)
           clear HB
           have HB := n0_
           clear n0_
           have p169 : 0 ≤ (x3_1 : Int) := od_
           have q169 : x3_1 < (l0.length : Int) := od_
           obtain ⟨ad169, e169, hx169_0, hx169_1, hx169_2⟩ := at_T44 HR0.out x3_1 p169 q169
           have hw169_2 := hx169_2
           have hw169_1 := hx169_1
           have hw169_0 := hx169_0
           cases e169
           replace hx169_0 := (HB.out.cell (World.block_lt_of_cell? w _ hx169_0)).trans hx169_0
           replace hx169_1 := (HB.out.cell (World.block_lt_of_cell? w _ hx169_1)).trans hx169_1
           replace hx169_2 := (HB.out.cell (World.block_lt_of_cell? w _ hx169_2)).trans hx169_2
           replace p169 := eq_true p169
           replace q169 := eq_true q169
           have p170 : 0 ≤ (x3_1 : Int) := od_
           have q170 : x3_1 < (l0.length : Int) := od_
           obtain ⟨ad170, e170, hx170_0, hx170_1, hx170_2⟩ := at_T44 HR0.out x3_1 p170 q170
           have hw170_2 := hx170_2
           have hw170_1 := hx170_1
           have hw170_0 := hx170_0
           obtain rfl : ad169 = ad170 := (by injection e170)
           replace hx170_0 := (HB.out.cell (World.block_lt_of_cell? w _ hx170_0)).trans hx170_0
           replace hx170_1 := (HB.out.cell (World.block_lt_of_cell? w _ hx170_1)).trans hx170_1
           replace hx170_2 := (HB.out.cell (World.block_lt_of_cell? w _ hx170_2)).trans hx170_2
           replace p170 := eq_true p170
           replace q170 := eq_true q170
           have p171 : 0 ≤ ((ji8) : Int) := od_
           have q171 : (ji8) < (l0.length : Int) := od_
           obtain ⟨ad171, e171, hx171_0, hx171_1, hx171_2⟩ := at_T44 HR0.out (ji8) p171 q171
           have hw171_2 := hx171_2
           have hw171_1 := hx171_1
           have hw171_0 := hx171_0
           obtain rfl : ad169 = ad171 := (by injection e171)
           replace hx171_0 := (HB.out.cell (World.block_lt_of_cell? w _ hx171_0)).trans hx171_0
           replace hx171_1 := (HB.out.cell (World.block_lt_of_cell? w _ hx171_1)).trans hx171_1
           replace hx171_2 := (HB.out.cell (World.block_lt_of_cell? w _ hx171_2)).trans hx171_2
           replace p171 := eq_true p171
           replace q171 := eq_true q171
           refine start_ (n := 33) (S := fun w' => w'.cell? (ad169.add ((x3_1).toNat * 3)) = some (.int .i64 ((rd_T44 l0 x3_1).f0)) ∧ w'.cell? ⟨(ad169.add ((x3_1).toNat * 3)).block, (ad169.add ((x3_1).toNat * 3)).off + 1, none⟩ = some (.int .i64 ((rd_T44 l0 x3_1).f1)) ∧ w'.cell? ⟨(ad169.add ((x3_1).toNat * 3)).block, (ad169.add ((x3_1).toNat * 3)).off + 2, none⟩ = some (.int .i64 ((rd_T44 l0 x3_1).f2)) ∧ w'.cell? (ad169.add ((x3_1).toNat * 3)) = some (.int .i64 ((rd_T44 l0 x3_1).f0)) ∧ w'.cell? ⟨(ad169.add ((x3_1).toNat * 3)).block, (ad169.add ((x3_1).toNat * 3)).off + 1, none⟩ = some (.int .i64 ((rd_T44 l0 x3_1).f1)) ∧ w'.cell? ⟨(ad169.add ((x3_1).toNat * 3)).block, (ad169.add ((x3_1).toNat * 3)).off + 2, none⟩ = some (.int .i64 ((rd_T44 l0 x3_1).f2)) ∧ w'.cell? (ad169.add (((ji8)).toNat * 3)) = some (.int .i64 ((rd_T44 l0 (ji8)).f0)) ∧ w'.cell? ⟨(ad169.add (((ji8)).toNat * 3)).block, (ad169.add (((ji8)).toNat * 3)).off + 1, none⟩ = some (.int .i64 ((rd_T44 l0 (ji8)).f1)) ∧ w'.cell? ⟨(ad169.add (((ji8)).toNat * 3)).block, (ad169.add (((ji8)).toNat * 3)).off + 2, none⟩ = some (.int .i64 ((rd_T44 l0 (ji8)).f2))) (ds := []) #[n_, n_, n_, n_, n_, n_, n_, n_, n_, n_, n_, n_, n_, n_, n_, n_, n_, n_, n_, n_, n_, n_, n_, n_, n_, n_, n_, n_, n_, n_, n_, n_, n_] (by kernel_rfl) rfl rfl ⟨((HB.out.cell (World.block_lt_of_cell? w _ hw169_0)).trans hw169_0), ((HB.out.cell (World.block_lt_of_cell? w _ hw169_1)).trans hw169_1), ((HB.out.cell (World.block_lt_of_cell? w _ hw169_2)).trans hw169_2), ((HB.out.cell (World.block_lt_of_cell? w _ hw170_0)).trans hw170_0), ((HB.out.cell (World.block_lt_of_cell? w _ hw170_1)).trans hw170_1), ((HB.out.cell (World.block_lt_of_cell? w _ hw170_2)).trans hw170_2), ((HB.out.cell (World.block_lt_of_cell? w _ hw171_0)).trans hw171_0), ((HB.out.cell (World.block_lt_of_cell? w _ hw171_1)).trans hw171_1), ((HB.out.cell (World.block_lt_of_cell? w _ hw171_2)).trans hw171_2)⟩ (fun hHeld => ?_); refine with_tabW cohousingref28_Valid.tab4 cohousingref28_Valid.bits4 (fun HT_ HW_ => ?_)
           generalize wr.drew = w12 at HB hx169_0 hx169_1 hx169_2 hx170_0 hx170_1 hx170_2 hx171_0 hx171_1 hx171_2 hHeld ⊢
           refine pu_ 0 10 (w_ 33 1) rfl HT_ ?_
           refine pu_ 1 11 (w_ 33 3) rfl HT_ ?_
           refine pu_ 2 12 (w_ 33 7) rfl HT_ ?_
           refine pu_ 3 13 (w_ 33 15) rfl HT_ ?_
           refine ta_ 4 14 (w_ 33 31) rfl HT_ HW_ hHeld (by rintro w' ⟨s0, s1, s2, s3, s4, s5, s6, s7, s8⟩; go_simp; with_reducible rfl) ?_
           refine pu_ 5 15 (w_ 33 63) rfl HT_ ?_
           refine pu_ 6 16 (w_ 33 127) rfl HT_ ?_
           refine pu_ 7 17 (w_ 33 255) rfl HT_ ?_
           refine pu_ 8 18 (w_ 33 511) rfl HT_ ?_
           refine pu_ 9 19 (w_ 33 1023) rfl HT_ ?_
           refine pu_ 10 20 (w_ 33 2047) rfl HT_ ?_
           refine pu_ 11 21 (w_ 33 4095) rfl HT_ ?_
           refine pu_ 12 22 (w_ 33 8191) rfl HT_ ?_
           refine pu_ 13 23 (w_ 33 16383) rfl HT_ ?_
           refine pu_ 15 25 (w_ 33 49151) rfl HT_ ?_
           refine pu_ 16 26 (w_ 33 114687) rfl HT_ ?_
           refine pu_ 17 27 (w_ 33 245759) rfl HT_ ?_
           refine pu_ 18 28 (w_ 33 507903) rfl HT_ ?_
           refine pu_ 19 29 (w_ 33 1032191) rfl HT_ ?_
           refine ta_ 14 24 (w_ 33 1048575) rfl HT_ HW_ hHeld (by rintro w' ⟨s0, s1, s2, s3, s4, s5, s6, s7, s8⟩; go_simp; with_reducible rfl) ?_
           refine ta_ 20 30 (w_ 33 2097151) rfl HT_ HW_ hHeld (by rintro w' ⟨s0, s1, s2, s3, s4, s5, s6, s7, s8⟩; go_simp; with_reducible rfl) ?_
           refine pu_ 21 31 (w_ 33 4194303) rfl HT_ ?_
           refine pu_ 22 32 (w_ 33 8388607) rfl HT_ ?_
           refine pu_ 23 33 (w_ 33 16777215) rfl HT_ ?_
           refine pu_ 24 34 (w_ 33 33554431) rfl HT_ ?_
           refine pn_ 25 35 (w_ 33 67108863) rfl HT_ ?_
           refine pn_ 26 36 (w_ 33 134217727) rfl HT_ ?_
           refine pn_ 27 37 (w_ 33 268435455) rfl HT_ ?_
           refine pn_ 28 38 (w_ 33 536870911) rfl HT_ ?_
           refine pn_ 29 39 (w_ 33 1073741823) rfl HT_ ?_
           refine pn_ 30 40 (w_ 33 2147483647) rfl HT_ ?_
           refine pn_ 31 41 (w_ 33 4294967295) rfl HT_ ?_
           refine pu_ 32 42 (w_ 33 8589934591) rfl HT_ ?_
           refine done_ (done_of HT_.out (by kernel_rfl)) ?_
           try go_wp2
           go_meet
           case rel => exact ⟨_, (true), sd_, H', ⟨by have := HK1.out; first | omega | exact Nat.le_refl _⟩, ⟨by repeat (first | (with_reducible first | exact HB.out | apply below_alloc | apply pw_below_drewN | apply below_drew1) | exact HB.out)⟩⟩
          ·rw [if_neg c11] at H
           have c11b0 : decide (((rd_T44 l0 x3_1).f0) ≤ ((rd_T44 l0 (ji8)).f0)) = false := decide_eq_false c11
           clear c11
           replace H := Option.bind_eq_some_iff.mp H
           obtain ⟨t173, A130, H⟩ := H
           replace H : (cohousingref28_Valid.j1 k1 l0 x3_1 (!t173)) = some r := H
           have A13 := Aside0.mk A130
           clear A130
           have H' := Aside0.mk H
           clear H
           try go_wp2
           have n0_ := Aside0.mk (below_drew1 HB.out)
           clear HB
           have HB := n0_
           clear n0_
           have p169 : 0 ≤ (x3_1 : Int) := od_
           have q169 : x3_1 < (l0.length : Int) := od_
           obtain ⟨ad169, e169, hx169_0, hx169_1, hx169_2⟩ := at_T44 HR0.out x3_1 p169 q169
           have hw169_2 := hx169_2
           have hw169_1 := hx169_1
           have hw169_0 := hx169_0
           cases e169
           replace hx169_0 := (HB.out.cell (World.block_lt_of_cell? w _ hx169_0)).trans hx169_0
           replace hx169_1 := (HB.out.cell (World.block_lt_of_cell? w _ hx169_1)).trans hx169_1
           replace hx169_2 := (HB.out.cell (World.block_lt_of_cell? w _ hx169_2)).trans hx169_2
           replace p169 := eq_true p169
           replace q169 := eq_true q169
           have p170 : 0 ≤ (x3_1 : Int) := od_
           have q170 : x3_1 < (l0.length : Int) := od_
           obtain ⟨ad170, e170, hx170_0, hx170_1, hx170_2⟩ := at_T44 HR0.out x3_1 p170 q170
           have hw170_2 := hx170_2
           have hw170_1 := hx170_1
           have hw170_0 := hx170_0
           obtain rfl : ad169 = ad170 := (by injection e170)
           replace hx170_0 := (HB.out.cell (World.block_lt_of_cell? w _ hx170_0)).trans hx170_0
           replace hx170_1 := (HB.out.cell (World.block_lt_of_cell? w _ hx170_1)).trans hx170_1
           replace hx170_2 := (HB.out.cell (World.block_lt_of_cell? w _ hx170_2)).trans hx170_2
           replace p170 := eq_true p170
           replace q170 := eq_true q170
           have p171 : 0 ≤ ((ji8) : Int) := od_
           have q171 : (ji8) < (l0.length : Int) := od_
           obtain ⟨ad171, e171, hx171_0, hx171_1, hx171_2⟩ := at_T44 HR0.out (ji8) p171 q171
           have hw171_2 := hx171_2
           have hw171_1 := hx171_1
           have hw171_0 := hx171_0
           obtain rfl : ad169 = ad171 := (by injection e171)
           replace hx171_0 := (HB.out.cell (World.block_lt_of_cell? w _ hx171_0)).trans hx171_0
           replace hx171_1 := (HB.out.cell (World.block_lt_of_cell? w _ hx171_1)).trans hx171_1
           replace hx171_2 := (HB.out.cell (World.block_lt_of_cell? w _ hx171_2)).trans hx171_2
           replace p171 := eq_true p171
           replace q171 := eq_true q171
           have p172 : 0 ≤ (x3_1 : Int) := od_
           have q172 : x3_1 < (l0.length : Int) := od_
           obtain ⟨ad172, e172, hx172_0, hx172_1, hx172_2⟩ := at_T44 HR0.out x3_1 p172 q172
           have hw172_2 := hx172_2
           have hw172_1 := hx172_1
           have hw172_0 := hx172_0
           obtain rfl : ad169 = ad172 := (by injection e172)
           replace hx172_0 := (HB.out.cell (World.block_lt_of_cell? w _ hx172_0)).trans hx172_0
           replace hx172_1 := (HB.out.cell (World.block_lt_of_cell? w _ hx172_1)).trans hx172_1
           replace hx172_2 := (HB.out.cell (World.block_lt_of_cell? w _ hx172_2)).trans hx172_2
           replace p172 := eq_true p172
           replace q172 := eq_true q172
           refine start_ (n := 33) (S := fun w' => w'.cell? (ad169.add ((x3_1).toNat * 3)) = some (.int .i64 ((rd_T44 l0 x3_1).f0)) ∧ w'.cell? ⟨(ad169.add ((x3_1).toNat * 3)).block, (ad169.add ((x3_1).toNat * 3)).off + 1, none⟩ = some (.int .i64 ((rd_T44 l0 x3_1).f1)) ∧ w'.cell? ⟨(ad169.add ((x3_1).toNat * 3)).block, (ad169.add ((x3_1).toNat * 3)).off + 2, none⟩ = some (.int .i64 ((rd_T44 l0 x3_1).f2)) ∧ w'.cell? (ad169.add ((x3_1).toNat * 3)) = some (.int .i64 ((rd_T44 l0 x3_1).f0)) ∧ w'.cell? ⟨(ad169.add ((x3_1).toNat * 3)).block, (ad169.add ((x3_1).toNat * 3)).off + 1, none⟩ = some (.int .i64 ((rd_T44 l0 x3_1).f1)) ∧ w'.cell? ⟨(ad169.add ((x3_1).toNat * 3)).block, (ad169.add ((x3_1).toNat * 3)).off + 2, none⟩ = some (.int .i64 ((rd_T44 l0 x3_1).f2)) ∧ w'.cell? (ad169.add (((ji8)).toNat * 3)) = some (.int .i64 ((rd_T44 l0 (ji8)).f0)) ∧ w'.cell? ⟨(ad169.add (((ji8)).toNat * 3)).block, (ad169.add (((ji8)).toNat * 3)).off + 1, none⟩ = some (.int .i64 ((rd_T44 l0 (ji8)).f1)) ∧ w'.cell? ⟨(ad169.add (((ji8)).toNat * 3)).block, (ad169.add (((ji8)).toNat * 3)).off + 2, none⟩ = some (.int .i64 ((rd_T44 l0 (ji8)).f2)) ∧ w'.cell? (ad169.add ((x3_1).toNat * 3)) = some (.int .i64 ((rd_T44 l0 x3_1).f0)) ∧ w'.cell? ⟨(ad169.add ((x3_1).toNat * 3)).block, (ad169.add ((x3_1).toNat * 3)).off + 1, none⟩ = some (.int .i64 ((rd_T44 l0 x3_1).f1)) ∧ w'.cell? ⟨(ad169.add ((x3_1).toNat * 3)).block, (ad169.add ((x3_1).toNat * 3)).off + 2, none⟩ = some (.int .i64 ((rd_T44 l0 x3_1).f2))) (ds := []) #[n_, n_, n_, n_, n_, n_, n_, n_, n_, n_, n_, n_, n_, n_, n_, n_, n_, n_, n_, n_, n_, n_, n_, n_, n_, n_, n_, n_, n_, n_, n_, n_, n_] (by kernel_rfl) rfl rfl ⟨((HB.out.cell (World.block_lt_of_cell? w _ hw169_0)).trans hw169_0), ((HB.out.cell (World.block_lt_of_cell? w _ hw169_1)).trans hw169_1), ((HB.out.cell (World.block_lt_of_cell? w _ hw169_2)).trans hw169_2), ((HB.out.cell (World.block_lt_of_cell? w _ hw170_0)).trans hw170_0), ((HB.out.cell (World.block_lt_of_cell? w _ hw170_1)).trans hw170_1), ((HB.out.cell (World.block_lt_of_cell? w _ hw170_2)).trans hw170_2), ((HB.out.cell (World.block_lt_of_cell? w _ hw171_0)).trans hw171_0), ((HB.out.cell (World.block_lt_of_cell? w _ hw171_1)).trans hw171_1), ((HB.out.cell (World.block_lt_of_cell? w _ hw171_2)).trans hw171_2), ((HB.out.cell (World.block_lt_of_cell? w _ hw172_0)).trans hw172_0), ((HB.out.cell (World.block_lt_of_cell? w _ hw172_1)).trans hw172_1), ((HB.out.cell (World.block_lt_of_cell? w _ hw172_2)).trans hw172_2)⟩ (fun hHeld => ?_); refine with_tabW cohousingref28_Valid.tab4 cohousingref28_Valid.bits4 (fun HT_ HW_ => ?_)
           generalize wr.drew = w14 at HB hx169_0 hx169_1 hx169_2 hx170_0 hx170_1 hx170_2 hx171_0 hx171_1 hx171_2 hx172_0 hx172_1 hx172_2 hHeld ⊢
           refine pu_ 0 10 (w_ 33 1) rfl HT_ ?_
           refine pu_ 1 11 (w_ 33 3) rfl HT_ ?_
           refine pu_ 2 12 (w_ 33 7) rfl HT_ ?_
           refine pu_ 3 13 (w_ 33 15) rfl HT_ ?_
           refine ta_ 4 14 (w_ 33 31) rfl HT_ HW_ hHeld (by rintro w' ⟨s0, s1, s2, s3, s4, s5, s6, s7, s8, s9, s10, s11⟩; go_simp; with_reducible rfl) ?_
           refine pu_ 5 15 (w_ 33 63) rfl HT_ ?_
           refine pu_ 6 16 (w_ 33 127) rfl HT_ ?_
           refine pu_ 7 17 (w_ 33 255) rfl HT_ ?_
           refine pu_ 8 18 (w_ 33 511) rfl HT_ ?_
           refine pu_ 9 19 (w_ 33 1023) rfl HT_ ?_
           refine pu_ 10 20 (w_ 33 2047) rfl HT_ ?_
           refine pu_ 11 21 (w_ 33 4095) rfl HT_ ?_
           refine pu_ 12 22 (w_ 33 8191) rfl HT_ ?_
           refine pu_ 13 23 (w_ 33 16383) rfl HT_ ?_
           refine pu_ 15 25 (w_ 33 49151) rfl HT_ ?_
           refine pu_ 16 26 (w_ 33 114687) rfl HT_ ?_
           refine pu_ 17 27 (w_ 33 245759) rfl HT_ ?_
           refine pu_ 18 28 (w_ 33 507903) rfl HT_ ?_
           refine pu_ 19 29 (w_ 33 1032191) rfl HT_ ?_
           refine ta_ 14 24 (w_ 33 1048575) rfl HT_ HW_ hHeld (by rintro w' ⟨s0, s1, s2, s3, s4, s5, s6, s7, s8, s9, s10, s11⟩; go_simp; with_reducible rfl) ?_
           refine ta_ 20 30 (w_ 33 2097151) rfl HT_ HW_ hHeld (by rintro w' ⟨s0, s1, s2, s3, s4, s5, s6, s7, s8, s9, s10, s11⟩; go_simp; with_reducible rfl) ?_
           refine pu_ 21 31 (w_ 33 4194303) rfl HT_ ?_
           refine pu_ 22 32 (w_ 33 8388607) rfl HT_ ?_
           refine pu_ 23 33 (w_ 33 16777215) rfl HT_ ?_
           refine pu_ 24 34 (w_ 33 33554431) rfl HT_ ?_
           refine pu_ 25 35 (w_ 33 67108863) rfl HT_ ?_
           refine pu_ 26 36 (w_ 33 134217727) rfl HT_ ?_
           refine pu_ 27 37 (w_ 33 268435455) rfl HT_ ?_
           refine pu_ 28 38 (w_ 33 536870911) rfl HT_ ?_
           refine ta_ 29 39 (w_ 33 1073741823) rfl HT_ HW_ hHeld (by rintro w' ⟨s0, s1, s2, s3, s4, s5, s6, s7, s8, s9, s10, s11⟩; go_simp; with_reducible rfl) ?_
           refine one_ (i := 30) (N := some 40) (w_ 33 2147483647) rfl rfl (one_of HT_.out (by kernel_rfl)) (by decide) (fun K hK => ?_)
           refine goes_ Try.func40 (by kernel_rfl) rfl #[.int .i64 ((rd_T44 l0 x3_1).f2)] (by rfl) rfl rfl (by (try simp only [List.map_toArray, List.map_cons, List.map_nil]); first | done | rfl | (simp only [List.length_drop, List.length_take]; rfl)) ?_
           with_reducible refine (cohousingref28_Volume.calls ((rd_T44 l0 x3_1).f2) t173 _ A13.out).mono ?_
           rintro e w' ⟨rfl, ⟨nd, rfl⟩⟩
           refine ⟨_, rfl, ?_⟩
           refine hK.out _ _ ⟨((HB.out.cell (World.block_lt_of_cell? w _ hw169_0)).trans hw169_0), ((HB.out.cell (World.block_lt_of_cell? w _ hw169_1)).trans hw169_1), ((HB.out.cell (World.block_lt_of_cell? w _ hw169_2)).trans hw169_2), ((HB.out.cell (World.block_lt_of_cell? w _ hw170_0)).trans hw170_0), ((HB.out.cell (World.block_lt_of_cell? w _ hw170_1)).trans hw170_1), ((HB.out.cell (World.block_lt_of_cell? w _ hw170_2)).trans hw170_2), ((HB.out.cell (World.block_lt_of_cell? w _ hw171_0)).trans hw171_0), ((HB.out.cell (World.block_lt_of_cell? w _ hw171_1)).trans hw171_1), ((HB.out.cell (World.block_lt_of_cell? w _ hw171_2)).trans hw171_2), ((HB.out.cell (World.block_lt_of_cell? w _ hw172_0)).trans hw172_0), ((HB.out.cell (World.block_lt_of_cell? w _ hw172_1)).trans hw172_1), ((HB.out.cell (World.block_lt_of_cell? w _ hw172_2)).trans hw172_2)⟩ (fun hHeld => ?_)
           clear hK K
           refine norm_ (a' := ?_) ?_ ?_
           rotate_left
           ·show Act.put _ (some 40) _ = _
            simp only [Act.put, sI_, s0_, sS_, i64_w, i32_w]
            rfl
           refine pu_ 31 41 (w_ 33 4294967295) rfl HT_ ?_
           refine pu_ 32 42 (w_ 33 8589934591) rfl HT_ ?_
           refine done_ (done_of HT_.out (by kernel_rfl)) ?_
           try go_wp2
           go_meet
           case rel => exact ⟨_, (!t173), sd_, H', ⟨by have := HK1.out; first | omega | exact Nat.le_refl _⟩, ⟨by repeat (first | (with_reducible first | exact HB.out | apply below_alloc | apply pw_below_drewN | apply below_drew1) | exact HB.out)⟩⟩
         ·rw [if_neg c10] at H
          exact absurd H (by simp)
        ·rw [if_neg c9] at H
         exact absurd H (by simp)
       ·rw [if_neg c7] at H
        have c7b0 : decide (0 < x3_1) = false := decide_eq_false c7
        clear c7
        replace H := Option.bind_eq_some_iff.mp H
        obtain ⟨t175, A150, H⟩ := H
        replace H : (cohousingref28_Valid.j1 k1 l0 x3_1 (!t175)) = some r := H
        have A15 := Aside0.mk A150
        clear A150
        have H' := Aside0.mk H
        clear H
        try go_wp2
        have n0_ := Aside0.mk (below_drew1 HB.out)
        clear HB
        have HB := n0_
        clear n0_
        have p169 : 0 ≤ (x3_1 : Int) := od_
        have q169 : x3_1 < (l0.length : Int) := od_
        obtain ⟨ad169, e169, hx169_0, hx169_1, hx169_2⟩ := at_T44 HR0.out x3_1 p169 q169
        have hw169_2 := hx169_2
        have hw169_1 := hx169_1
        have hw169_0 := hx169_0
        cases e169
        replace hx169_0 := (HB.out.cell (World.block_lt_of_cell? w _ hx169_0)).trans hx169_0
        replace hx169_1 := (HB.out.cell (World.block_lt_of_cell? w _ hx169_1)).trans hx169_1
        replace hx169_2 := (HB.out.cell (World.block_lt_of_cell? w _ hx169_2)).trans hx169_2
        replace p169 := eq_true p169
        replace q169 := eq_true q169
        have p174 : 0 ≤ (x3_1 : Int) := od_
        have q174 : x3_1 < (l0.length : Int) := od_
        obtain ⟨ad174, e174, hx174_0, hx174_1, hx174_2⟩ := at_T44 HR0.out x3_1 p174 q174
        have hw174_2 := hx174_2
        have hw174_1 := hx174_1
        have hw174_0 := hx174_0
        obtain rfl : ad169 = ad174 := (by injection e174)
        replace hx174_0 := (HB.out.cell (World.block_lt_of_cell? w _ hx174_0)).trans hx174_0
        replace hx174_1 := (HB.out.cell (World.block_lt_of_cell? w _ hx174_1)).trans hx174_1
        replace hx174_2 := (HB.out.cell (World.block_lt_of_cell? w _ hx174_2)).trans hx174_2
        replace p174 := eq_true p174
        replace q174 := eq_true q174
        refine start_ (n := 33) (S := fun w' => w'.cell? (ad169.add ((x3_1).toNat * 3)) = some (.int .i64 ((rd_T44 l0 x3_1).f0)) ∧ w'.cell? ⟨(ad169.add ((x3_1).toNat * 3)).block, (ad169.add ((x3_1).toNat * 3)).off + 1, none⟩ = some (.int .i64 ((rd_T44 l0 x3_1).f1)) ∧ w'.cell? ⟨(ad169.add ((x3_1).toNat * 3)).block, (ad169.add ((x3_1).toNat * 3)).off + 2, none⟩ = some (.int .i64 ((rd_T44 l0 x3_1).f2)) ∧ w'.cell? (ad169.add ((x3_1).toNat * 3)) = some (.int .i64 ((rd_T44 l0 x3_1).f0)) ∧ w'.cell? ⟨(ad169.add ((x3_1).toNat * 3)).block, (ad169.add ((x3_1).toNat * 3)).off + 1, none⟩ = some (.int .i64 ((rd_T44 l0 x3_1).f1)) ∧ w'.cell? ⟨(ad169.add ((x3_1).toNat * 3)).block, (ad169.add ((x3_1).toNat * 3)).off + 2, none⟩ = some (.int .i64 ((rd_T44 l0 x3_1).f2))) (ds := []) #[n_, n_, n_, n_, n_, n_, n_, n_, n_, n_, n_, n_, n_, n_, n_, n_, n_, n_, n_, n_, n_, n_, n_, n_, n_, n_, n_, n_, n_, n_, n_, n_, n_] (by kernel_rfl) rfl rfl ⟨((HB.out.cell (World.block_lt_of_cell? w _ hw169_0)).trans hw169_0), ((HB.out.cell (World.block_lt_of_cell? w _ hw169_1)).trans hw169_1), ((HB.out.cell (World.block_lt_of_cell? w _ hw169_2)).trans hw169_2), ((HB.out.cell (World.block_lt_of_cell? w _ hw174_0)).trans hw174_0), ((HB.out.cell (World.block_lt_of_cell? w _ hw174_1)).trans hw174_1), ((HB.out.cell (World.block_lt_of_cell? w _ hw174_2)).trans hw174_2)⟩ (fun hHeld => ?_); refine with_tabW cohousingref28_Valid.tab4 cohousingref28_Valid.bits4 (fun HT_ HW_ => ?_)
        generalize wr.drew = w16 at HB hx169_0 hx169_1 hx169_2 hx174_0 hx174_1 hx174_2 hHeld ⊢
        refine pu_ 0 10 (w_ 33 1) rfl HT_ ?_
        refine pu_ 1 11 (w_ 33 3) rfl HT_ ?_
        refine pu_ 2 12 (w_ 33 7) rfl HT_ ?_
        refine pu_ 3 13 (w_ 33 15) rfl HT_ ?_
        refine ta_ 4 14 (w_ 33 31) rfl HT_ HW_ hHeld (by rintro w' ⟨s0, s1, s2, s3, s4, s5⟩; go_simp; with_reducible rfl) ?_
        refine pu_ 5 15 (w_ 33 63) rfl HT_ ?_
        refine pu_ 6 16 (w_ 33 127) rfl HT_ ?_
        refine pu_ 7 17 (w_ 33 255) rfl HT_ ?_
        refine pu_ 8 18 (w_ 33 511) rfl HT_ ?_
        refine pu_ 9 19 (w_ 33 1023) rfl HT_ ?_
        refine pn_ 10 20 (w_ 33 2047) rfl HT_ ?_
        refine pn_ 11 21 (w_ 33 4095) rfl HT_ ?_
        refine pn_ 12 22 (w_ 33 8191) rfl HT_ ?_
        refine pn_ 13 23 (w_ 33 16383) rfl HT_ ?_
        refine pn_ 14 24 (w_ 33 32767) rfl HT_ ?_
        refine pn_ 15 25 (w_ 33 65535) rfl HT_ ?_
        refine pn_ 16 26 (w_ 33 131071) rfl HT_ ?_
        refine pn_ 17 27 (w_ 33 262143) rfl HT_ ?_
        refine pn_ 18 28 (w_ 33 524287) rfl HT_ ?_
        refine pn_ 19 29 (w_ 33 1048575) rfl HT_ ?_
        refine pn_ 20 30 (w_ 33 2097151) rfl HT_ ?_
        refine pn_ 21 31 (w_ 33 4194303) rfl HT_ ?_
        refine pu_ 22 32 (w_ 33 8388607) rfl HT_ ?_
        refine pu_ 23 33 (w_ 33 16777215) rfl HT_ ?_
        refine pu_ 24 34 (w_ 33 33554431) rfl HT_ ?_
        refine pu_ 25 35 (w_ 33 67108863) rfl HT_ ?_
        refine pu_ 26 36 (w_ 33 134217727) rfl HT_ ?_
        refine pu_ 27 37 (w_ 33 268435455) rfl HT_ ?_
        refine pu_ 28 38 (w_ 33 536870911) rfl HT_ ?_
        refine ta_ 29 39 (w_ 33 1073741823) rfl HT_ HW_ hHeld (by rintro w' ⟨s0, s1, s2, s3, s4, s5⟩; go_simp; with_reducible rfl) ?_
        refine one_ (i := 30) (N := some 40) (w_ 33 2147483647) rfl rfl (one_of HT_.out (by kernel_rfl)) (by decide) (fun K hK => ?_)
        refine goes_ Try.func40 (by kernel_rfl) rfl #[.int .i64 ((rd_T44 l0 x3_1).f2)] (by rfl) rfl rfl (by (try simp only [List.map_toArray, List.map_cons, List.map_nil]); first | done | rfl | (simp only [List.length_drop, List.length_take]; rfl)) ?_
        with_reducible refine (cohousingref28_Volume.calls ((rd_T44 l0 x3_1).f2) t175 _ A15.out).mono ?_
        rintro e w' ⟨rfl, ⟨nd, rfl⟩⟩
        refine ⟨_, rfl, ?_⟩
        refine hK.out _ _ ⟨((HB.out.cell (World.block_lt_of_cell? w _ hw169_0)).trans hw169_0), ((HB.out.cell (World.block_lt_of_cell? w _ hw169_1)).trans hw169_1), ((HB.out.cell (World.block_lt_of_cell? w _ hw169_2)).trans hw169_2), ((HB.out.cell (World.block_lt_of_cell? w _ hw174_0)).trans hw174_0), ((HB.out.cell (World.block_lt_of_cell? w _ hw174_1)).trans hw174_1), ((HB.out.cell (World.block_lt_of_cell? w _ hw174_2)).trans hw174_2)⟩ (fun hHeld => ?_)
        clear hK K
        refine norm_ (a' := ?_) ?_ ?_
        rotate_left
        ·show Act.put _ (some 40) _ = _
         simp only [Act.put, sI_, s0_, sS_, i64_w, i32_w]
         rfl
        refine pu_ 31 41 (w_ 33 4294967295) rfl HT_ ?_
        refine pu_ 32 42 (w_ 33 8589934591) rfl HT_ ?_
        refine done_ (done_of HT_.out (by kernel_rfl)) ?_
        try go_wp2
        go_meet
        case rel => exact ⟨_, (!t175), sd_, H', ⟨by have := HK1.out; first | omega | exact Nat.le_refl _⟩, ⟨by repeat (first | (with_reducible first | exact HB.out | apply below_alloc | apply pw_below_drewN | apply below_drew1) | exact HB.out)⟩⟩
     ·rw [if_neg c4] at H
      exact absurd H (by simp)
    case rest =>
     clear HC3
     try clear c1
     try clear p1
     try clear q1
     try clear hx1
     try clear p2
     try clear c4
     try clear c7
     try clear c7b0
     try clear c9
     try clear c10
     try clear p16
     try clear q16
     try clear hx16
     try clear hx169_0
     try clear hx169_1
     try clear hx169_2
     try clear hx170_0
     try clear hx170_1
     try clear hx170_2
     try clear hx171_0
     try clear hx171_1
     try clear hx171_2
     try clear hx172_0
     try clear hx172_1
     try clear hx172_2
     try clear hx174_0
     try clear hx174_1
     try clear hx174_2
     try clear p169
     try clear p170
     try clear p171
     try clear p172
     try clear p174
     try clear q169
     try clear q170
     try clear q171
     try clear q172
     try clear q174
     obtain ⟨kq, x42_2, rfl, HA, HJ2, HB⟩ := hcut
     cases kq with
     | zero => exact absurd HA.out (by simp [cohousingref28_Valid.j1])
     | succ kj2 =>
      have H := HA.out
      clear HA
      simp only [cohousingref28_Valid.j1] at H
      by_cases c17 : x42_2 = true
      ·subst c17
       have H1 : (some false) = some r := by rw [if_pos rfl] at H; exact H
       clear H
       have H := H1
       clear H1
       obtain rfl := Option.some.inj H
       go_wp2
       go_ret
       exact ⟨ew_, by repeat (first | (with_reducible first | exact HB.out | apply below_alloc | apply pw_below_drewN | apply below_drew1) | exact HB.out)⟩
      ·replace c17 := Bool.eq_false_iff.mpr c17
       subst c17
       have H1 : (if 0 ≤ x3_1 then (if x3_1 < (l0.length : Int) then (if ((rd_T44 l0 x3_1).f1) = 0 then (cohousingref28_Valid.l0 kj2 l0 (wrap64 (x3_1 + 1))) else (if x3_1 ≤ (l0.length : Int) then ((cohousingref28_At.f kj2 (l0.take (x3_1 : Int).toNat) ((rd_T44 l0 x3_1).f1)).bind fun t182 => (if t182 < 0 then (some false) else (cohousingref28_Valid.l0 kj2 l0 (wrap64 (x3_1 + 1))))) else (none))) else (none)) else (none)) = some r := by rw [if_neg (show ¬ (false = true) by decide)] at H; exact H
       clear H
       have H := H1
       clear H1
       by_cases c18 : 0 ≤ x3_1
       ·rw [if_pos c18] at H
        have c18b0 : decide (0 ≤ x3_1) = true := decide_eq_true c18
        clear c18
        by_cases c19 : x3_1 < (l0.length : Int)
        ·rw [if_pos c19] at H
         have c19b0 : decide (x3_1 < (l0.length : Int)) = true := decide_eq_true c19
         clear c19
         by_cases c20 : ((rd_T44 l0 x3_1).f1) = 0
         ·rw [if_pos c20] at H
          have c20b0 : (((rd_T44 l0 x3_1).f1) == 0) = true := beq_iff_eq.mpr c20
          have c20b1 : (((rd_T44 l0 x3_1).f1) != 0) = false := bne_eq_false_iff_eq.mpr c20
          clear c20
          have H' := Aside0.mk H
          clear H
          try go_wp2
          have n0_ := Aside0.mk (below_drew1 HB.out)
          clear HB
          have HB := n0_
          clear n0_
          have p176 : 0 ≤ (x3_1 : Int) := od_
          have q176 : x3_1 < (l0.length : Int) := od_
          obtain ⟨ad176, e176, hx176_0, hx176_1, hx176_2⟩ := at_T44 HR0.out x3_1 p176 q176
          have hw176_2 := hx176_2
          have hw176_1 := hx176_1
          have hw176_0 := hx176_0
          cases e176
          replace hx176_0 := (HB.out.cell (World.block_lt_of_cell? w _ hx176_0)).trans hx176_0
          replace hx176_1 := (HB.out.cell (World.block_lt_of_cell? w _ hx176_1)).trans hx176_1
          replace hx176_2 := (HB.out.cell (World.block_lt_of_cell? w _ hx176_2)).trans hx176_2
          replace p176 := eq_true p176
          replace q176 := eq_true q176
          refine start_ (n := 18) (S := fun w' => w'.cell? (ad176.add ((x3_1).toNat * 3)) = some (.int .i64 ((rd_T44 l0 x3_1).f0)) ∧ w'.cell? ⟨(ad176.add ((x3_1).toNat * 3)).block, (ad176.add ((x3_1).toNat * 3)).off + 1, none⟩ = some (.int .i64 ((rd_T44 l0 x3_1).f1)) ∧ w'.cell? ⟨(ad176.add ((x3_1).toNat * 3)).block, (ad176.add ((x3_1).toNat * 3)).off + 2, none⟩ = some (.int .i64 ((rd_T44 l0 x3_1).f2))) (ds := []) #[n_, n_, n_, n_, n_, n_, n_, n_, n_, n_, n_, n_, n_, n_, n_, n_, n_, n_] (by kernel_rfl) rfl rfl ⟨((HB.out.cell (World.block_lt_of_cell? w _ hw176_0)).trans hw176_0), ((HB.out.cell (World.block_lt_of_cell? w _ hw176_1)).trans hw176_1), ((HB.out.cell (World.block_lt_of_cell? w _ hw176_2)).trans hw176_2)⟩ (fun hHeld => ?_); refine with_tabW cohousingref28_Valid.tab6 cohousingref28_Valid.bits6 (fun HT_ HW_ => ?_)
          generalize wc.drew = w21 at HB hx176_0 hx176_1 hx176_2 hHeld ⊢
          refine pu_ 0 43 (w_ 18 1) rfl HT_ ?_
          refine pu_ 1 44 (w_ 18 3) rfl HT_ ?_
          refine pu_ 2 45 (w_ 18 7) rfl HT_ ?_
          refine pu_ 3 46 (w_ 18 15) rfl HT_ ?_
          refine ta_ 4 47 (w_ 18 31) rfl HT_ HW_ hHeld (by rintro w' ⟨s0, s1, s2⟩; go_simp; with_reducible rfl) ?_
          refine pu_ 5 48 (w_ 18 63) rfl HT_ ?_
          refine pu_ 6 49 (w_ 18 127) rfl HT_ ?_
          refine pn_ 7 50 (w_ 18 255) rfl HT_ ?_
          refine pn_ 8 51 (w_ 18 511) rfl HT_ ?_
          refine pn_ 9 52 (w_ 18 1023) rfl HT_ ?_
          refine pn_ 10 53 (w_ 18 2047) rfl HT_ ?_
          refine pn_ 11 54 (w_ 18 4095) rfl HT_ ?_
          refine pn_ 12 55 (w_ 18 8191) rfl HT_ ?_
          refine pn_ 13 56 (w_ 18 16383) rfl HT_ ?_
          refine pn_ 14 57 (w_ 18 32767) rfl HT_ ?_
          refine pn_ 15 58 (w_ 18 65535) rfl HT_ ?_
          refine pn_ 16 59 (w_ 18 131071) rfl HT_ ?_
          refine pu_ 17 60 (w_ 18 262143) rfl HT_ ?_
          refine done_ (done_of HT_.out (by kernel_rfl)) ?_
          try go_wp2
          go_roundg kj2
          case measure => have := HK1.out; have := HJ2.out; omega
          case rel => exact ⟨(wrap64 (x3_1 + 1)), sd_, H', ⟨by have := HK1.out; have := HJ2.out; omega⟩, ⟨by repeat (first | (with_reducible first | exact HB.out | apply below_alloc | apply pw_below_drewN | apply below_drew1) | exact HB.out)⟩⟩
         ·rw [if_neg c20] at H
          have c20b0 : (((rd_T44 l0 x3_1).f1) == 0) = false := beq_eq_false_iff_ne.mpr c20
          have c20b1 : (((rd_T44 l0 x3_1).f1) != 0) = true := bne_iff_ne.mpr c20
          have c22b0 := eq_true (od_ : 0 ≤ x3_1)
          by_cases c23 : x3_1 ≤ (l0.length : Int)
          ·rw [if_pos c23] at H
           have c23b0 := eq_true c23
           have c23b1 : decide (x3_1 ≤ (l0.length : Int)) = true := decide_eq_true c23
           clear c23
           obtain ⟨y177, hy177⟩ : ∃ y_ : List (S44), y_ = (l0.take (x3_1 : Int).toNat) := ⟨_, rfl⟩
           replace H : ((cohousingref28_At.f kj2 y177 ((rd_T44 l0 x3_1).f1)).bind fun t182 => (if t182 < 0 then (some false) else (cohousingref28_Valid.l0 kj2 l0 (wrap64 (x3_1 + 1))))) = some r := by first | (rw [hy177]; with_reducible exact H) | (have H2_ := (Option.bind_some _ _).symm.trans H; rw [hy177]; with_reducible exact H2_) | (have H2_ := (Option.bind_some _ _).symm.trans H; with_reducible exact H2_) | with_reducible exact H | (rw [hy177]; exact H) | exact H
           have Ny177 := Aside0.mk hy177
           clear hy177
           replace H := Option.bind_eq_some_iff.mp H
           obtain ⟨t182, A240, H⟩ := H
           replace H : (if t182 < 0 then (some false) else (cohousingref28_Valid.l0 kj2 l0 (wrap64 (x3_1 + 1)))) = some r := H
           have A24 := Aside0.mk A240
           clear A240
           by_cases c25 : t182 < 0
           ·rw [if_pos c25] at H
            have c25b0 : decide (t182 < 0) = true := decide_eq_true c25
            clear c25
            obtain rfl := Option.some.inj H
            try go_wp2
            have n0_ := Aside0.mk (below_drew1 HB.out)
            clear HB
            have HB := n0_
            clear n0_
            have p176 : 0 ≤ (x3_1 : Int) := od_
            have q176 : x3_1 < (l0.length : Int) := od_
            obtain ⟨ad176, e176, hx176_0, hx176_1, hx176_2⟩ := at_T44 HR0.out x3_1 p176 q176
            have hw176_2 := hx176_2
            have hw176_1 := hx176_1
            have hw176_0 := hx176_0
            cases e176
            replace hx176_0 := (HB.out.cell (World.block_lt_of_cell? w _ hx176_0)).trans hx176_0
            replace hx176_1 := (HB.out.cell (World.block_lt_of_cell? w _ hx176_1)).trans hx176_1
            replace hx176_2 := (HB.out.cell (World.block_lt_of_cell? w _ hx176_2)).trans hx176_2
            replace p176 := eq_true p176
            replace q176 := eq_true q176
            have q27 : (x3_1 : Int) ≤ ((l0.length : Int) : Int) := od_
            obtain ⟨i027, hi027, _, hsz27, _⟩ := info_parts info44
            have hroom27 : l0.length ≤ c0 := HC0.out
            have hC27 : Kd.C k44 _ (some ad176) l0.length l0 := HR0.out
            have hcut27 := cut_to (P := Try.prog) 22 44 .i64 Try.underlying22 hi027 (some ad176) l0.length c0 x3_1 (od_) q27 hroom27
            have hr27 := Kd.C_take (m := (x3_1 : Int).toNat) hC27 (by omega)
            have hy27 : y177.length = (x3_1 : Int).toNat := (by rw [Ny177.out, List.length_take]; omega)
            rw [← Ny177.out] at hr27
            rw [← hy27] at hcut27
            have HR180 := Aside0.mk hr27
            have HC180 := Aside0.mk (show y177.length ≤ c0 from by omega)
            clear hr27 hC27 hroom27 hi027 hsz27
            have KY27 := Aside0.mk hy27
            clear hy27
            replace q27 := eq_true q27
            have p181 : 0 ≤ (x3_1 : Int) := od_
            have q181 : x3_1 < (l0.length : Int) := od_
            obtain ⟨ad181, e181, hx181_0, hx181_1, hx181_2⟩ := at_T44 HR0.out x3_1 p181 q181
            have hw181_2 := hx181_2
            have hw181_1 := hx181_1
            have hw181_0 := hx181_0
            obtain rfl : ad176 = ad181 := (by injection e181)
            replace hx181_0 := (HB.out.cell (World.block_lt_of_cell? w _ hx181_0)).trans hx181_0
            replace hx181_1 := (HB.out.cell (World.block_lt_of_cell? w _ hx181_1)).trans hx181_1
            replace hx181_2 := (HB.out.cell (World.block_lt_of_cell? w _ hx181_2)).trans hx181_2
            replace p181 := eq_true p181
            replace q181 := eq_true q181
            refine start_ (n := 18) (S := fun w' => w'.cell? (ad176.add ((x3_1).toNat * 3)) = some (.int .i64 ((rd_T44 l0 x3_1).f0)) ∧ w'.cell? ⟨(ad176.add ((x3_1).toNat * 3)).block, (ad176.add ((x3_1).toNat * 3)).off + 1, none⟩ = some (.int .i64 ((rd_T44 l0 x3_1).f1)) ∧ w'.cell? ⟨(ad176.add ((x3_1).toNat * 3)).block, (ad176.add ((x3_1).toNat * 3)).off + 2, none⟩ = some (.int .i64 ((rd_T44 l0 x3_1).f2)) ∧ w'.cell? (ad176.add ((x3_1).toNat * 3)) = some (.int .i64 ((rd_T44 l0 x3_1).f0)) ∧ w'.cell? ⟨(ad176.add ((x3_1).toNat * 3)).block, (ad176.add ((x3_1).toNat * 3)).off + 1, none⟩ = some (.int .i64 ((rd_T44 l0 x3_1).f1)) ∧ w'.cell? ⟨(ad176.add ((x3_1).toNat * 3)).block, (ad176.add ((x3_1).toNat * 3)).off + 2, none⟩ = some (.int .i64 ((rd_T44 l0 x3_1).f2))) (ds := []) #[n_, n_, n_, n_, n_, n_, n_, n_, n_, n_, n_, n_, n_, n_, n_, n_, n_, n_] (by kernel_rfl) rfl rfl ⟨((HB.out.cell (World.block_lt_of_cell? w _ hw176_0)).trans hw176_0), ((HB.out.cell (World.block_lt_of_cell? w _ hw176_1)).trans hw176_1), ((HB.out.cell (World.block_lt_of_cell? w _ hw176_2)).trans hw176_2), ((HB.out.cell (World.block_lt_of_cell? w _ hw181_0)).trans hw181_0), ((HB.out.cell (World.block_lt_of_cell? w _ hw181_1)).trans hw181_1), ((HB.out.cell (World.block_lt_of_cell? w _ hw181_2)).trans hw181_2)⟩ (fun hHeld => ?_); refine with_tabW cohousingref28_Valid.tab6 cohousingref28_Valid.bits6 (fun HT_ HW_ => ?_)
            generalize wc.drew = w26 at HB HR180 hx176_0 hx176_1 hx176_2 hx181_0 hx181_1 hx181_2 hHeld ⊢
            refine pu_ 0 43 (w_ 18 1) rfl HT_ ?_
            refine pu_ 1 44 (w_ 18 3) rfl HT_ ?_
            refine pu_ 2 45 (w_ 18 7) rfl HT_ ?_
            refine pu_ 3 46 (w_ 18 15) rfl HT_ ?_
            refine ta_ 4 47 (w_ 18 31) rfl HT_ HW_ hHeld (by rintro w' ⟨s0, s1, s2, s3, s4, s5⟩; go_simp; with_reducible rfl) ?_
            refine pu_ 5 48 (w_ 18 63) rfl HT_ ?_
            refine pu_ 6 49 (w_ 18 127) rfl HT_ ?_
            refine pu_ 7 50 (w_ 18 255) rfl HT_ ?_
            refine pu_ 8 51 (w_ 18 511) rfl HT_ ?_
            refine pu_ 9 52 (w_ 18 1023) rfl HT_ ?_
            refine pu_ 10 53 (w_ 18 2047) rfl HT_ ?_
            refine pu_ 11 54 (w_ 18 4095) rfl HT_ ?_
            refine pu_ 12 55 (w_ 18 8191) rfl HT_ ?_
            refine pu_ 13 56 (w_ 18 16383) rfl HT_ ?_
            refine ta_ 14 57 (w_ 18 32767) rfl HT_ HW_ hHeld (by rintro w' ⟨s0, s1, s2, s3, s4, s5⟩; go_simp; with_reducible rfl) ?_
            refine one_ (i := 15) (N := some 58) (w_ 18 65535) rfl rfl (one_of HT_.out (by kernel_rfl)) (by decide) (fun K hK => ?_)
            refine goes_ Try.func25 (by kernel_rfl) rfl #[.slice (some ad176) y177.length c0, .int .i64 ((rd_T44 l0 x3_1).f1)] (by rfl) rfl rfl (by (try simp only [List.map_toArray, List.map_cons, List.map_nil]); first | done | rfl | (simp only [List.length_drop, List.length_take]; rfl)) ?_
            with_reducible refine (cohousingref28_At.calls kj2 _ _ y177 ((rd_T44 l0 x3_1).f1) t182 _ ?side1 ?side2 A24.out).mono ?_
            (case side1 => exact cc_ ((Kd.C_below HR180.out HB.out)))
            (case side2 => exact HC180.out)
            rintro e w' ⟨rfl, ⟨nd, rfl⟩⟩
            refine ⟨_, rfl, ?_⟩
            refine hK.out _ _ ⟨((HB.out.cell (World.block_lt_of_cell? w _ hw176_0)).trans hw176_0), ((HB.out.cell (World.block_lt_of_cell? w _ hw176_1)).trans hw176_1), ((HB.out.cell (World.block_lt_of_cell? w _ hw176_2)).trans hw176_2), ((HB.out.cell (World.block_lt_of_cell? w _ hw181_0)).trans hw181_0), ((HB.out.cell (World.block_lt_of_cell? w _ hw181_1)).trans hw181_1), ((HB.out.cell (World.block_lt_of_cell? w _ hw181_2)).trans hw181_2)⟩ (fun hHeld => ?_)
            clear hK K
            refine norm_ (a' := ?_) ?_ ?_
            rotate_left
            ·show Act.put _ (some 58) _ = _
             simp only [Act.put, sI_, s0_, sS_, i64_w, i32_w]
             rfl
            refine pu_ 16 59 (w_ 18 131071) rfl HT_ ?_
            refine pu_ 17 60 (w_ 18 262143) rfl HT_ ?_
            refine done_ (done_of HT_.out (by kernel_rfl)) ?_
            try go_wp2
            go_ret
            exact ⟨ew_, by repeat (first | (with_reducible first | exact HB.out | apply below_alloc | apply pw_below_drewN | apply below_drew1) | exact HB.out)⟩
           ·rw [if_neg c25] at H
            have c25b0 : decide (t182 < 0) = false := decide_eq_false c25
            clear c25
            have H' := Aside0.mk H
            clear H
            try go_wp2
            have n0_ := Aside0.mk (below_drew1 HB.out)
            clear HB
            have HB := n0_
            clear n0_
            have p176 : 0 ≤ (x3_1 : Int) := od_
            have q176 : x3_1 < (l0.length : Int) := od_
            obtain ⟨ad176, e176, hx176_0, hx176_1, hx176_2⟩ := at_T44 HR0.out x3_1 p176 q176
            have hw176_2 := hx176_2
            have hw176_1 := hx176_1
            have hw176_0 := hx176_0
            cases e176
            replace hx176_0 := (HB.out.cell (World.block_lt_of_cell? w _ hx176_0)).trans hx176_0
            replace hx176_1 := (HB.out.cell (World.block_lt_of_cell? w _ hx176_1)).trans hx176_1
            replace hx176_2 := (HB.out.cell (World.block_lt_of_cell? w _ hx176_2)).trans hx176_2
            replace p176 := eq_true p176
            replace q176 := eq_true q176
            have q29 : (x3_1 : Int) ≤ ((l0.length : Int) : Int) := od_
            obtain ⟨i029, hi029, _, hsz29, _⟩ := info_parts info44
            have hroom29 : l0.length ≤ c0 := HC0.out
            have hC29 : Kd.C k44 _ (some ad176) l0.length l0 := HR0.out
            have hcut29 := cut_to (P := Try.prog) 22 44 .i64 Try.underlying22 hi029 (some ad176) l0.length c0 x3_1 (od_) q29 hroom29
            have hr29 := Kd.C_take (m := (x3_1 : Int).toNat) hC29 (by omega)
            have hy29 : y177.length = (x3_1 : Int).toNat := (by rw [Ny177.out, List.length_take]; omega)
            rw [← Ny177.out] at hr29
            rw [← hy29] at hcut29
            have HR180 := Aside0.mk hr29
            have HC180 := Aside0.mk (show y177.length ≤ c0 from by omega)
            clear hr29 hC29 hroom29 hi029 hsz29
            have KY29 := Aside0.mk hy29
            clear hy29
            replace q29 := eq_true q29
            have p181 : 0 ≤ (x3_1 : Int) := od_
            have q181 : x3_1 < (l0.length : Int) := od_
            obtain ⟨ad181, e181, hx181_0, hx181_1, hx181_2⟩ := at_T44 HR0.out x3_1 p181 q181
            have hw181_2 := hx181_2
            have hw181_1 := hx181_1
            have hw181_0 := hx181_0
            obtain rfl : ad176 = ad181 := (by injection e181)
            replace hx181_0 := (HB.out.cell (World.block_lt_of_cell? w _ hx181_0)).trans hx181_0
            replace hx181_1 := (HB.out.cell (World.block_lt_of_cell? w _ hx181_1)).trans hx181_1
            replace hx181_2 := (HB.out.cell (World.block_lt_of_cell? w _ hx181_2)).trans hx181_2
            replace p181 := eq_true p181
            replace q181 := eq_true q181
            refine start_ (n := 18) (S := fun w' => w'.cell? (ad176.add ((x3_1).toNat * 3)) = some (.int .i64 ((rd_T44 l0 x3_1).f0)) ∧ w'.cell? ⟨(ad176.add ((x3_1).toNat * 3)).block, (ad176.add ((x3_1).toNat * 3)).off + 1, none⟩ = some (.int .i64 ((rd_T44 l0 x3_1).f1)) ∧ w'.cell? ⟨(ad176.add ((x3_1).toNat * 3)).block, (ad176.add ((x3_1).toNat * 3)).off + 2, none⟩ = some (.int .i64 ((rd_T44 l0 x3_1).f2)) ∧ w'.cell? (ad176.add ((x3_1).toNat * 3)) = some (.int .i64 ((rd_T44 l0 x3_1).f0)) ∧ w'.cell? ⟨(ad176.add ((x3_1).toNat * 3)).block, (ad176.add ((x3_1).toNat * 3)).off + 1, none⟩ = some (.int .i64 ((rd_T44 l0 x3_1).f1)) ∧ w'.cell? ⟨(ad176.add ((x3_1).toNat * 3)).block, (ad176.add ((x3_1).toNat * 3)).off + 2, none⟩ = some (.int .i64 ((rd_T44 l0 x3_1).f2))) (ds := []) #[n_, n_, n_, n_, n_, n_, n_, n_, n_, n_, n_, n_, n_, n_, n_, n_, n_, n_] (by kernel_rfl) rfl rfl ⟨((HB.out.cell (World.block_lt_of_cell? w _ hw176_0)).trans hw176_0), ((HB.out.cell (World.block_lt_of_cell? w _ hw176_1)).trans hw176_1), ((HB.out.cell (World.block_lt_of_cell? w _ hw176_2)).trans hw176_2), ((HB.out.cell (World.block_lt_of_cell? w _ hw181_0)).trans hw181_0), ((HB.out.cell (World.block_lt_of_cell? w _ hw181_1)).trans hw181_1), ((HB.out.cell (World.block_lt_of_cell? w _ hw181_2)).trans hw181_2)⟩ (fun hHeld => ?_); refine with_tabW cohousingref28_Valid.tab6 cohousingref28_Valid.bits6 (fun HT_ HW_ => ?_)
            generalize wc.drew = w28 at HB HR180 hx176_0 hx176_1 hx176_2 hx181_0 hx181_1 hx181_2 hHeld ⊢
            refine pu_ 0 43 (w_ 18 1) rfl HT_ ?_
            refine pu_ 1 44 (w_ 18 3) rfl HT_ ?_
            refine pu_ 2 45 (w_ 18 7) rfl HT_ ?_
            refine pu_ 3 46 (w_ 18 15) rfl HT_ ?_
            refine ta_ 4 47 (w_ 18 31) rfl HT_ HW_ hHeld (by rintro w' ⟨s0, s1, s2, s3, s4, s5⟩; go_simp; with_reducible rfl) ?_
            refine pu_ 5 48 (w_ 18 63) rfl HT_ ?_
            refine pu_ 6 49 (w_ 18 127) rfl HT_ ?_
            refine pu_ 7 50 (w_ 18 255) rfl HT_ ?_
            refine pu_ 8 51 (w_ 18 511) rfl HT_ ?_
            refine pu_ 9 52 (w_ 18 1023) rfl HT_ ?_
            refine pu_ 10 53 (w_ 18 2047) rfl HT_ ?_
            refine pu_ 11 54 (w_ 18 4095) rfl HT_ ?_
            refine pu_ 12 55 (w_ 18 8191) rfl HT_ ?_
            refine pu_ 13 56 (w_ 18 16383) rfl HT_ ?_
            refine ta_ 14 57 (w_ 18 32767) rfl HT_ HW_ hHeld (by rintro w' ⟨s0, s1, s2, s3, s4, s5⟩; go_simp; with_reducible rfl) ?_
            refine one_ (i := 15) (N := some 58) (w_ 18 65535) rfl rfl (one_of HT_.out (by kernel_rfl)) (by decide) (fun K hK => ?_)
            refine goes_ Try.func25 (by kernel_rfl) rfl #[.slice (some ad176) y177.length c0, .int .i64 ((rd_T44 l0 x3_1).f1)] (by rfl) rfl rfl (by (try simp only [List.map_toArray, List.map_cons, List.map_nil]); first | done | rfl | (simp only [List.length_drop, List.length_take]; rfl)) ?_
            with_reducible refine (cohousingref28_At.calls kj2 _ _ y177 ((rd_T44 l0 x3_1).f1) t182 _ ?side1 ?side2 A24.out).mono ?_
            (case side1 => exact cc_ ((Kd.C_below HR180.out HB.out)))
            (case side2 => exact HC180.out)
            rintro e w' ⟨rfl, ⟨nd, rfl⟩⟩
            refine ⟨_, rfl, ?_⟩
            refine hK.out _ _ ⟨((HB.out.cell (World.block_lt_of_cell? w _ hw176_0)).trans hw176_0), ((HB.out.cell (World.block_lt_of_cell? w _ hw176_1)).trans hw176_1), ((HB.out.cell (World.block_lt_of_cell? w _ hw176_2)).trans hw176_2), ((HB.out.cell (World.block_lt_of_cell? w _ hw181_0)).trans hw181_0), ((HB.out.cell (World.block_lt_of_cell? w _ hw181_1)).trans hw181_1), ((HB.out.cell (World.block_lt_of_cell? w _ hw181_2)).trans hw181_2)⟩ (fun hHeld => ?_)
            clear hK K
            refine norm_ (a' := ?_) ?_ ?_
            rotate_left
            ·show Act.put _ (some 58) _ = _
             simp only [Act.put, sI_, s0_, sS_, i64_w, i32_w]
             rfl
            refine pu_ 16 59 (w_ 18 131071) rfl HT_ ?_
            refine pu_ 17 60 (w_ 18 262143) rfl HT_ ?_
            refine done_ (done_of HT_.out (by kernel_rfl)) ?_
            try go_wp2
            go_roundg kj2
            case measure => have := HK1.out; have := HJ2.out; omega
            case rel => exact ⟨(wrap64 (x3_1 + 1)), sd_, H', ⟨by have := HK1.out; have := HJ2.out; omega⟩, ⟨by repeat (first | (with_reducible first | exact HB.out | apply below_alloc | apply pw_below_drewN | apply below_drew1) | exact HB.out)⟩⟩
          ·rw [if_neg c23] at H
           exact absurd H (by simp)
        ·rw [if_neg c19] at H
         exact absurd H (by simp)
       ·rw [if_neg c18] at H
        exact absurd H (by simp)
   ·rw [if_neg c2] at H
    have c2b0 : decide (x3_1 < (l0.length : Int)) = false := decide_eq_false c2
    clear c2
    obtain rfl := Option.some.inj H
    go_wp2
    go_ret
    exact ⟨ew_, by repeat (first | (with_reducible first | exact HB.out | apply below_alloc | apply pw_below_drewN | apply below_drew1) | exact HB.out)⟩
end
section
open Go.Proofs.YtolmjhpapidmhaaH
theorem volume_f (n : Int) : cohousingref28_Volume.f n = some (decide (0 ≤ n ∧ n ≤ 1000000000)) := by
 unfold cohousingref28_Volume.f
 (repeat' split) <;> simp_all <;> omega
theorem volume_calls {n : Int} {b : Bool} (h : decide (0 ≤ n ∧ n ≤ 1000000000) = b) (w : World) : Calls Try.prog 40 #[.int .i64 n] w fun e w' => e = .returned (.bool b) ∧ Drawn0 w w' := cohousingref28_Volume.calls n b w (by rw [volume_f, h])
def cohousingref28_Belongs.f (l0 : List S44) (l1 : List S46) : Option Bool := if l0.length ≤ 140737488355328 ∧ l1.length ≤ 140737488355328 then some (belongsB l0.length l1) else none
theorem cohousingref28_Belongs.calls (A0 : Option Addr) (c0 : Nat) (l0 : List (S44)) (A1 : Option Addr) (c1 : Nat) (l1 : List (S46)) (r : Bool) (w : World) (hr0 : Kd.C k44 w A0 l0.length l0) (hc0 : l0.length ≤ c0) (hr1 : Kd.C k46 w A1 l1.length l1) (hc1 : l1.length ≤ c1) (h : cohousingref28_Belongs.f l0 l1 = some r) :
  Calls Try.prog 34 #[.slice A0 l0.length c0, .slice A1 l1.length c1] w fun e w' => e = .returned (.bool r) ∧ Below w.heap.size w w' := by
 unfold cohousingref28_Belongs.f at h
 by_cases hsz : l0.length ≤ 140737488355328 ∧ l1.length ≤ 140737488355328
 case neg =>
  rw [if_neg hsz] at h
  cases h
 rw [if_pos hsz] at h
 injection h with h
 subst h
 have HR1 := Aside0.mk hr1
 have HSZ := Aside0.mk hsz
 clear hr0 hr1 hc0 hc1 hsz
 have HB := Aside0.mk (Below.refl w.heap.size w)
 by_cases hl : l1.length = l0.length
 case neg =>
  have d2 : ((l1.length : Int) == (l0.length : Int)) = false := beq_eq_false_iff_ne.2 (by omega)
  have d2' : ((l1.length : Int) != (l0.length : Int)) = true := bne_iff_ne.2 (by omega)
  have HF := Aside0.mk (show belongsB l0.length l1 = false by unfold belongsB; rw [decide_eq_false hl]; rfl)
  clear hl
  go_enter Try.func34, Try.ntmps34
  go_wp2
  go_ret
  exact ⟨by rw [HF.out]; rfl, HB.out⟩
 have d2 : ((l1.length : Int) == (l0.length : Int)) = true := beq_iff_eq.2 (by omega)
 have d2' : ((l1.length : Int) != (l0.length : Int)) = false := by rw [bne, d2]; rfl
 have HL := Aside0.mk hl
 clear hl
 go_enter Try.func34, Try.ntmps34
 go_wp2
 go_loopg [5] l1.length (fun kq v5 wr => ∃ (n : Nat), v5 = .int .i64 n ∧ Aside0 (kq + n = l1.length) ∧ Aside0 (∀ j : Nat, j < n → oddR (rd_T46 l1 j) = false) ∧ Aside0 (Below w.heap.size w wr))
 case atStart => exact ⟨0, rfl, ⟨by omega⟩, ⟨fun j hj => absurd hj (Nat.not_lt_zero _)⟩, HB⟩
 case round =>
  clear HB
  obtain ⟨n, rfl, HM, HOK, HB⟩ := hrel
  by_cases hlt : n < l1.length
  case neg =>
   have q2' : decide ((n : Int) < (l1.length : Int)) = false := decide_eq_false (by omega)
   have q2'' : decide (n < l1.length) = false := decide_eq_false hlt
   have HF := Aside0.mk (show belongsB l0.length l1 = true by
    unfold belongsB
    rw [decide_eq_true HL.out, Bool.true_and, show l1.any oddR = false from ?_]
    ·rfl
    ·rw [List.any_eq_false]
     intro x hx
     obtain ⟨j, hj, rfl⟩ := List.mem_iff_getElem.1 hx
     have := HOK.out j (by have := HM.out; omega)
     simp only [rd_T46, Int.toNat_natCast, List.getD_eq_getElem?_getD, List.getElem?_eq_getElem hj, Option.getD_some] at this
     rw [this]
     decide)
   clear hlt
   go_wp2
   go_ret
   exact ⟨by rw [HF.out]; rfl, HB.out⟩
  obtain ⟨i, hi⟩ : ∃ i : Int, i = (n : Int) := ⟨_, rfl⟩
  rw [← hi]
  have HI2 := Aside0.mk (show 0 ≤ i ∧ i < l1.length ∧ i = (n : Int) from ⟨by omega, by omega, hi⟩)
  have q2' : decide (i < (l1.length : Int)) = true := decide_eq_true HI2.out.2.1
  have ci2 : (0 ≤ i) = True := eq_true HI2.out.1
  have ci3 : (i < l1.length) = True := eq_true HI2.out.2.1
  obtain ⟨ad, ea, hx0, hx1⟩ := at_T46 (Kd.C_below HR1.out HB.out.drew) i HI2.out.1 HI2.out.2.1
  subst ea
  have HBAD : oddR (rd_T46 l1 i) = true → belongsB l0.length l1 = false := fun hb => by
   unfold belongsB
   have : l1.any oddR = true := by
    rw [List.any_eq_true]
    refine ⟨l1[n], List.getElem_mem hlt, ?_⟩
    have e : i.toNat = n := by have := HI2.out; omega
    simp only [rd_T46, e, List.getD_eq_getElem?_getD, List.getElem?_eq_getElem hlt, Option.getD_some] at hb
    exact hb
   rw [this, Bool.not_true, Bool.and_false]
  have HBD := Aside0.mk HBAD
  obtain ⟨x0, hx0e⟩ : ∃ x0, x0 = (rd_T46 l1 i).f0 := ⟨_, rfl⟩
  obtain ⟨x1, hx1e⟩ : ∃ x1, x1 = (rd_T46 l1 i).f1 := ⟨_, rfl⟩
  rw [← hx0e] at hx0
  rw [← hx1e] at hx1
  have hodd : oddR (rd_T46 l1 i) = decide (¬ (0 ≤ x0 ∧ x0 ≤ 1000000000 ∧ 0 ≤ x1 ∧ x1 ≤ 1000000000 ∧ x0 ≤ x1)) := by unfold oddR; rw [hx0e, hx1e]
  have HODD := Aside0.mk hodd
  have HNI := Aside0.mk (show rd_T46 l1 i = rd_T46 l1 (n : Nat) by rw [hi])
  clear hlt hi hx0e hx1e HBAD hodd
  by_cases v0 : 0 ≤ x0 ∧ x0 ≤ 1000000000
  case neg =>
   have HV0 := Aside0.mk (decide_eq_false v0)
   have HF := Aside0.mk (show belongsB l0.length l1 = false from HBD.out (by rw [HODD.out]; exact decide_eq_true (fun h => v0 ⟨h.1, h.2.1⟩)))
   clear v0
   go_wp2
   refine start_ (n := 29) (S := fun w' => w'.cell? (ad.add (i.toNat * 2)) = some (.int .i64 x0) ∧ w'.cell? ⟨(ad.add (i.toNat * 2)).block, (ad.add (i.toNat * 2)).off + 1, none⟩ = some (.int .i64 x1)) (ds := []) #[n_, n_, n_, n_, n_, n_, n_, n_, n_, n_, n_, n_, n_, n_, n_, n_, n_, n_, n_, n_, n_, n_, n_, n_, n_, n_, n_, n_, n_] (by kernel_rfl) rfl rfl ⟨hx0, hx1⟩ (fun hHeld => ?_)
   refine pv_ 0 17 (w_ 29 1) rfl ?_
   refine pv_ 1 18 (w_ 29 3) rfl ?_
   refine pv_ 2 19 (w_ 29 7) rfl ?_
   refine pv_ 3 20 (w_ 29 15) rfl ?_
   refine tb_ 4 21 (w_ 29 31) rfl hHeld (by rintro w' ⟨s0, s1⟩; go_simp; with_reducible rfl) ?_
   refine one_ (i := 5) (N := some 22) (w_ 29 63) rfl rfl (by kernel_rfl) (by decide) (fun K hK => ?_)
   refine goes_ Try.func40 (by kernel_rfl) rfl #[.int .i64 x0] (by rfl) rfl rfl (by simp only [List.map_toArray, List.map_cons, List.map_nil]; rfl) ?_
   with_reducible refine (volume_calls HV0.out _).mono ?_
   rintro e w3 ⟨rfl, hdr⟩
   refine ⟨_, rfl, ?_⟩
   have hb := hdr.below
   have HBF := Aside0.mk (below_step (below_drew (Below.refl _ _)) hb)
   refine hK.out _ _ ⟨(hb.cell (World.block_lt_of_cell? _ _ hHeld.1)).trans hHeld.1, (hb.cell (World.block_lt_of_cell? _ _ hHeld.2)).trans hHeld.2⟩ (fun hHeld => ?_)
   clear hK K
   refine norm_ (a' := ?_) ?_ ?_
   rotate_left
   ·show Act.put _ (some 22) _ = _
    simp only [Act.put, sI_, s0_, sS_, i64_w, i32_w]
    rfl
   refine pv_ 6 23 (w_ 29 127) rfl ?_
   refine pv_ 7 24 (w_ 29 255) rfl ?_
   refine po_ 8 25 (w_ 29 511) rfl ?_
   refine po_ 9 26 (w_ 29 1023) rfl ?_
   refine po_ 10 27 (w_ 29 2047) rfl ?_
   refine po_ 11 28 (w_ 29 4095) rfl ?_
   refine po_ 12 29 (w_ 29 8191) rfl ?_
   refine po_ 13 30 (w_ 29 16383) rfl ?_
   refine po_ 14 31 (w_ 29 32767) rfl ?_
   refine pv_ 15 32 (w_ 29 65535) rfl ?_
   refine pv_ 16 33 (w_ 29 131071) rfl ?_
   refine po_ 17 34 (w_ 29 262143) rfl ?_
   refine po_ 18 35 (w_ 29 524287) rfl ?_
   refine po_ 19 36 (w_ 29 1048575) rfl ?_
   refine po_ 20 37 (w_ 29 2097151) rfl ?_
   refine po_ 21 38 (w_ 29 4194303) rfl ?_
   refine po_ 22 39 (w_ 29 8388607) rfl ?_
   refine po_ 23 40 (w_ 29 16777215) rfl ?_
   refine po_ 24 41 (w_ 29 33554431) rfl ?_
   refine po_ 25 42 (w_ 29 67108863) rfl ?_
   refine po_ 26 43 (w_ 29 134217727) rfl ?_
   refine po_ 27 44 (w_ 29 268435455) rfl ?_
   refine pv_ 28 45 (w_ 29 536870911) rfl ?_
   refine done_ (by kernel_rfl) ?_
   go_wp2
   go_ret
   exact ⟨by rw [HF.out]; rfl, HB.out.trans (HBF.out.mono HB.out.size)⟩
  have HV0 := Aside0.mk (decide_eq_true v0)
  by_cases v1 : 0 ≤ x1 ∧ x1 ≤ 1000000000
  case neg =>
   have HV1 := Aside0.mk (decide_eq_false v1)
   have HF := Aside0.mk (show belongsB l0.length l1 = false from HBD.out (by rw [HODD.out]; exact decide_eq_true (fun h => v1 ⟨h.2.2.1, h.2.2.2.1⟩)))
   clear v0 v1
   go_wp2
   refine start_ (n := 29) (S := fun w' => w'.cell? (ad.add (i.toNat * 2)) = some (.int .i64 x0) ∧ w'.cell? ⟨(ad.add (i.toNat * 2)).block, (ad.add (i.toNat * 2)).off + 1, none⟩ = some (.int .i64 x1)) (ds := []) #[n_, n_, n_, n_, n_, n_, n_, n_, n_, n_, n_, n_, n_, n_, n_, n_, n_, n_, n_, n_, n_, n_, n_, n_, n_, n_, n_, n_, n_] (by kernel_rfl) rfl rfl ⟨hx0, hx1⟩ (fun hHeld => ?_)
   refine pv_ 0 17 (w_ 29 1) rfl ?_
   refine pv_ 1 18 (w_ 29 3) rfl ?_
   refine pv_ 2 19 (w_ 29 7) rfl ?_
   refine pv_ 3 20 (w_ 29 15) rfl ?_
   refine tb_ 4 21 (w_ 29 31) rfl hHeld (by rintro w' ⟨s0, s1⟩; go_simp; with_reducible rfl) ?_
   refine one_ (i := 5) (N := some 22) (w_ 29 63) rfl rfl (by kernel_rfl) (by decide) (fun K hK => ?_)
   refine goes_ Try.func40 (by kernel_rfl) rfl #[.int .i64 x0] (by rfl) rfl rfl (by simp only [List.map_toArray, List.map_cons, List.map_nil]; rfl) ?_
   with_reducible refine (volume_calls HV0.out _).mono ?_
   rintro e w3 ⟨rfl, hdr⟩
   refine ⟨_, rfl, ?_⟩
   have hb := hdr.below
   have HB1 := Aside0.mk (below_step (below_drew (Below.refl _ _)) hb)
   refine hK.out _ _ ⟨(hb.cell (World.block_lt_of_cell? _ _ hHeld.1)).trans hHeld.1, (hb.cell (World.block_lt_of_cell? _ _ hHeld.2)).trans hHeld.2⟩ (fun hHeld => ?_)
   clear hK K
   refine norm_ (a' := ?_) ?_ ?_
   rotate_left
   ·show Act.put _ (some 22) _ = _
    simp only [Act.put, sI_, s0_, sS_, i64_w, i32_w]
    rfl
   refine pv_ 6 23 (w_ 29 127) rfl ?_
   refine pv_ 7 24 (w_ 29 255) rfl ?_
   refine pv_ 8 25 (w_ 29 511) rfl ?_
   refine pv_ 9 26 (w_ 29 1023) rfl ?_
   refine pv_ 10 27 (w_ 29 2047) rfl ?_
   refine pv_ 11 28 (w_ 29 4095) rfl ?_
   refine tb_ 12 29 (w_ 29 8191) rfl hHeld (by rintro w' ⟨s0, s1⟩; go_simp; with_reducible rfl) ?_
   refine one_ (i := 13) (N := some 30) (w_ 29 16383) rfl rfl (by kernel_rfl) (by decide) (fun K hK => ?_)
   refine goes_ Try.func40 (by kernel_rfl) rfl #[.int .i64 x1] (by rfl) rfl rfl (by simp only [List.map_toArray, List.map_cons, List.map_nil]; rfl) ?_
   with_reducible refine (volume_calls HV1.out _).mono ?_
   rintro e w3 ⟨rfl, hdr⟩
   refine ⟨_, rfl, ?_⟩
   have hb := hdr.below
   have HBF := Aside0.mk (below_step HB1.out hb)
   refine hK.out _ _ ⟨(hb.cell (World.block_lt_of_cell? _ _ hHeld.1)).trans hHeld.1, (hb.cell (World.block_lt_of_cell? _ _ hHeld.2)).trans hHeld.2⟩ (fun hHeld => ?_)
   clear hK K
   refine norm_ (a' := ?_) ?_ ?_
   rotate_left
   ·show Act.put _ (some 30) _ = _
    simp only [Act.put, sI_, s0_, sS_, i64_w, i32_w]
    rfl
   refine pv_ 14 31 (w_ 29 32767) rfl ?_
   refine pv_ 15 32 (w_ 29 65535) rfl ?_
   refine pv_ 16 33 (w_ 29 131071) rfl ?_
   refine po_ 17 34 (w_ 29 262143) rfl ?_
   refine po_ 18 35 (w_ 29 524287) rfl ?_
   refine po_ 19 36 (w_ 29 1048575) rfl ?_
   refine po_ 20 37 (w_ 29 2097151) rfl ?_
   refine po_ 21 38 (w_ 29 4194303) rfl ?_
   refine po_ 22 39 (w_ 29 8388607) rfl ?_
   refine po_ 23 40 (w_ 29 16777215) rfl ?_
   refine po_ 24 41 (w_ 29 33554431) rfl ?_
   refine po_ 25 42 (w_ 29 67108863) rfl ?_
   refine po_ 26 43 (w_ 29 134217727) rfl ?_
   refine po_ 27 44 (w_ 29 268435455) rfl ?_
   refine pv_ 28 45 (w_ 29 536870911) rfl ?_
   refine done_ (by kernel_rfl) ?_
   go_wp2
   go_ret
   exact ⟨by rw [HF.out]; rfl, HB.out.trans (HBF.out.mono HB.out.size)⟩
  have HV1 := Aside0.mk (decide_eq_true v1)
  by_cases v2 : x1 < x0
  ·have t2 : decide (x1 < x0) = true := decide_eq_true v2
   have HF := Aside0.mk (show belongsB l0.length l1 = false from HBD.out (by rw [HODD.out]; exact decide_eq_true (fun h => by omega)))
   clear v0 v1 v2
   go_wp2
   refine start_ (n := 29) (S := fun w' => w'.cell? (ad.add (i.toNat * 2)) = some (.int .i64 x0) ∧ w'.cell? ⟨(ad.add (i.toNat * 2)).block, (ad.add (i.toNat * 2)).off + 1, none⟩ = some (.int .i64 x1)) (ds := []) #[n_, n_, n_, n_, n_, n_, n_, n_, n_, n_, n_, n_, n_, n_, n_, n_, n_, n_, n_, n_, n_, n_, n_, n_, n_, n_, n_, n_, n_] (by kernel_rfl) rfl rfl ⟨hx0, hx1⟩ (fun hHeld => ?_)
   refine pv_ 0 17 (w_ 29 1) rfl ?_
   refine pv_ 1 18 (w_ 29 3) rfl ?_
   refine pv_ 2 19 (w_ 29 7) rfl ?_
   refine pv_ 3 20 (w_ 29 15) rfl ?_
   refine tb_ 4 21 (w_ 29 31) rfl hHeld (by rintro w' ⟨s0, s1⟩; go_simp; with_reducible rfl) ?_
   refine one_ (i := 5) (N := some 22) (w_ 29 63) rfl rfl (by kernel_rfl) (by decide) (fun K hK => ?_)
   refine goes_ Try.func40 (by kernel_rfl) rfl #[.int .i64 x0] (by rfl) rfl rfl (by simp only [List.map_toArray, List.map_cons, List.map_nil]; rfl) ?_
   with_reducible refine (volume_calls HV0.out _).mono ?_
   rintro e w3 ⟨rfl, hdr⟩
   refine ⟨_, rfl, ?_⟩
   have hb := hdr.below
   have HB1 := Aside0.mk (below_step (below_drew (Below.refl _ _)) hb)
   refine hK.out _ _ ⟨(hb.cell (World.block_lt_of_cell? _ _ hHeld.1)).trans hHeld.1, (hb.cell (World.block_lt_of_cell? _ _ hHeld.2)).trans hHeld.2⟩ (fun hHeld => ?_)
   clear hK K
   refine norm_ (a' := ?_) ?_ ?_
   rotate_left
   ·show Act.put _ (some 22) _ = _
    simp only [Act.put, sI_, s0_, sS_, i64_w, i32_w]
    rfl
   refine pv_ 6 23 (w_ 29 127) rfl ?_
   refine pv_ 7 24 (w_ 29 255) rfl ?_
   refine pv_ 8 25 (w_ 29 511) rfl ?_
   refine pv_ 9 26 (w_ 29 1023) rfl ?_
   refine pv_ 10 27 (w_ 29 2047) rfl ?_
   refine pv_ 11 28 (w_ 29 4095) rfl ?_
   refine tb_ 12 29 (w_ 29 8191) rfl hHeld (by rintro w' ⟨s0, s1⟩; go_simp; with_reducible rfl) ?_
   refine one_ (i := 13) (N := some 30) (w_ 29 16383) rfl rfl (by kernel_rfl) (by decide) (fun K hK => ?_)
   refine goes_ Try.func40 (by kernel_rfl) rfl #[.int .i64 x1] (by rfl) rfl rfl (by simp only [List.map_toArray, List.map_cons, List.map_nil]; rfl) ?_
   with_reducible refine (volume_calls HV1.out _).mono ?_
   rintro e w3 ⟨rfl, hdr⟩
   refine ⟨_, rfl, ?_⟩
   have hb := hdr.below
   have HBF := Aside0.mk (below_step HB1.out hb)
   refine hK.out _ _ ⟨(hb.cell (World.block_lt_of_cell? _ _ hHeld.1)).trans hHeld.1, (hb.cell (World.block_lt_of_cell? _ _ hHeld.2)).trans hHeld.2⟩ (fun hHeld => ?_)
   clear hK K
   refine norm_ (a' := ?_) ?_ ?_
   rotate_left
   ·show Act.put _ (some 30) _ = _
    simp only [Act.put, sI_, s0_, sS_, i64_w, i32_w]
    rfl
   refine pv_ 14 31 (w_ 29 32767) rfl ?_
   refine pv_ 15 32 (w_ 29 65535) rfl ?_
   refine pv_ 16 33 (w_ 29 131071) rfl ?_
   refine pv_ 17 34 (w_ 29 262143) rfl ?_
   refine pv_ 18 35 (w_ 29 524287) rfl ?_
   refine pv_ 19 36 (w_ 29 1048575) rfl ?_
   refine pv_ 20 37 (w_ 29 2097151) rfl ?_
   refine pv_ 22 39 (w_ 29 6291455) rfl ?_
   refine pv_ 23 40 (w_ 29 14680063) rfl ?_
   refine pv_ 24 41 (w_ 29 31457279) rfl ?_
   refine pv_ 25 42 (w_ 29 65011711) rfl ?_
   refine tb_ 21 38 (w_ 29 67108863) rfl hHeld (by rintro w' ⟨s0, s1⟩; go_simp; with_reducible rfl) ?_
   refine tb_ 26 43 (w_ 29 134217727) rfl hHeld (by rintro w' ⟨s0, s1⟩; go_simp; with_reducible rfl) ?_
   refine pv_ 27 44 (w_ 29 268435455) rfl ?_
   refine pv_ 28 45 (w_ 29 536870911) rfl ?_
   refine done_ (by kernel_rfl) ?_
   go_wp2
   go_ret
   exact ⟨by rw [HF.out]; rfl, HB.out.trans (HBF.out.mono HB.out.size)⟩
  have t2 : decide (x1 < x0) = false := decide_eq_false v2
  have HG := Aside0.mk (show oddR (rd_T46 l1 i) = false by rw [HODD.out]; exact decide_eq_false (fun h => h ⟨v0.1, v0.2, v1.1, v1.2, by omega⟩))
  clear v0 v1 v2
  have hz1 : i + 1 ≤ 9223372036854775807 := by have := HI2.out; have := HSZ.out; omega
  have hz2 : -9223372036854775808 ≤ i + 1 := by have := HI2.out; omega
  go_wp2
  refine start_ (n := 29) (S := fun w' => w'.cell? (ad.add (i.toNat * 2)) = some (.int .i64 x0) ∧ w'.cell? ⟨(ad.add (i.toNat * 2)).block, (ad.add (i.toNat * 2)).off + 1, none⟩ = some (.int .i64 x1)) (ds := []) #[n_, n_, n_, n_, n_, n_, n_, n_, n_, n_, n_, n_, n_, n_, n_, n_, n_, n_, n_, n_, n_, n_, n_, n_, n_, n_, n_, n_, n_] (by kernel_rfl) rfl rfl ⟨hx0, hx1⟩ (fun hHeld => ?_)
  refine pv_ 0 17 (w_ 29 1) rfl ?_
  refine pv_ 1 18 (w_ 29 3) rfl ?_
  refine pv_ 2 19 (w_ 29 7) rfl ?_
  refine pv_ 3 20 (w_ 29 15) rfl ?_
  refine tb_ 4 21 (w_ 29 31) rfl hHeld (by rintro w' ⟨s0, s1⟩; go_simp; with_reducible rfl) ?_
  refine one_ (i := 5) (N := some 22) (w_ 29 63) rfl rfl (by kernel_rfl) (by decide) (fun K hK => ?_)
  refine goes_ Try.func40 (by kernel_rfl) rfl #[.int .i64 x0] (by rfl) rfl rfl (by simp only [List.map_toArray, List.map_cons, List.map_nil]; rfl) ?_
  with_reducible refine (volume_calls HV0.out _).mono ?_
  rintro e w3 ⟨rfl, hdr⟩
  refine ⟨_, rfl, ?_⟩
  have hb := hdr.below
  have HB1 := Aside0.mk (below_step (below_drew (Below.refl _ _)) hb)
  refine hK.out _ _ ⟨(hb.cell (World.block_lt_of_cell? _ _ hHeld.1)).trans hHeld.1, (hb.cell (World.block_lt_of_cell? _ _ hHeld.2)).trans hHeld.2⟩ (fun hHeld => ?_)
  clear hK K
  refine norm_ (a' := ?_) ?_ ?_
  rotate_left
  ·show Act.put _ (some 22) _ = _
   simp only [Act.put, sI_, s0_, sS_, i64_w, i32_w]
   rfl
  refine pv_ 6 23 (w_ 29 127) rfl ?_
  refine pv_ 7 24 (w_ 29 255) rfl ?_
  refine pv_ 8 25 (w_ 29 511) rfl ?_
  refine pv_ 9 26 (w_ 29 1023) rfl ?_
  refine pv_ 10 27 (w_ 29 2047) rfl ?_
  refine pv_ 11 28 (w_ 29 4095) rfl ?_
  refine tb_ 12 29 (w_ 29 8191) rfl hHeld (by rintro w' ⟨s0, s1⟩; go_simp; with_reducible rfl) ?_
  refine one_ (i := 13) (N := some 30) (w_ 29 16383) rfl rfl (by kernel_rfl) (by decide) (fun K hK => ?_)
  refine goes_ Try.func40 (by kernel_rfl) rfl #[.int .i64 x1] (by rfl) rfl rfl (by simp only [List.map_toArray, List.map_cons, List.map_nil]; rfl) ?_
  with_reducible refine (volume_calls HV1.out _).mono ?_
  rintro e w3 ⟨rfl, hdr⟩
  refine ⟨_, rfl, ?_⟩
  have hb := hdr.below
  have HBF := Aside0.mk (below_step HB1.out hb)
  refine hK.out _ _ ⟨(hb.cell (World.block_lt_of_cell? _ _ hHeld.1)).trans hHeld.1, (hb.cell (World.block_lt_of_cell? _ _ hHeld.2)).trans hHeld.2⟩ (fun hHeld => ?_)
  clear hK K
  refine norm_ (a' := ?_) ?_ ?_
  rotate_left
  ·show Act.put _ (some 30) _ = _
   simp only [Act.put, sI_, s0_, sS_, i64_w, i32_w]
   rfl
  refine pv_ 14 31 (w_ 29 32767) rfl ?_
  refine pv_ 15 32 (w_ 29 65535) rfl ?_
  refine pv_ 16 33 (w_ 29 131071) rfl ?_
  refine pv_ 17 34 (w_ 29 262143) rfl ?_
  refine pv_ 18 35 (w_ 29 524287) rfl ?_
  refine pv_ 19 36 (w_ 29 1048575) rfl ?_
  refine pv_ 20 37 (w_ 29 2097151) rfl ?_
  refine pv_ 22 39 (w_ 29 6291455) rfl ?_
  refine pv_ 23 40 (w_ 29 14680063) rfl ?_
  refine pv_ 24 41 (w_ 29 31457279) rfl ?_
  refine pv_ 25 42 (w_ 29 65011711) rfl ?_
  refine tb_ 21 38 (w_ 29 67108863) rfl hHeld (by rintro w' ⟨s0, s1⟩; go_simp; with_reducible rfl) ?_
  refine tb_ 26 43 (w_ 29 134217727) rfl hHeld (by rintro w' ⟨s0, s1⟩; go_simp; with_reducible rfl) ?_
  refine pv_ 27 44 (w_ 29 268435455) rfl ?_
  refine pv_ 28 45 (w_ 29 536870911) rfl ?_
  refine done_ (by kernel_rfl) ?_
  go_wp2
  go_roundg (gk - 1)
  case measure => have := HM.out; have := HI2.out; omega
  case rel =>
   refine ⟨n + 1, ?_, ⟨by have := HM.out; have := HI2.out; omega⟩, ⟨fun j hj => ?_⟩, ⟨HB.out.trans (HBF.out.mono HB.out.size)⟩⟩
   ·have := HI2.out
    first | (rw [show ((n + 1 : Nat) : Int) = i + 1 from by omega]; done) | (simp; omega)
   ·by_cases hj' : j < n
    ·exact HOK.out j hj'
    ·rw [show j = n by omega, ← HNI.out]
     exact HG.out
end
section
def cohousinglaw30_usable.f (k : Nat) (l0 : List (S44)) (l1 : List (S46)) (a2 : Int) : Option (Bool) := (cohousingref30_Few.f l0 l1).bind fun t367 => (if t367 = true then ((cohousingref28_Valid.f k l0).bind fun t368 => (if t368 = true then ((cohousingref28_Belongs.f l0 l1).bind fun t369 => (if t369 = true then (if a2 ≥ 0 then (some (decide (a2 ≤ 3))) else (some false)) else (some false))) else (some false))) else (some false))
theorem cohousinglaw30_usable.calls (k : Nat) (A0 : Option Addr) (c0 : Nat) (l0 : List (S44)) (A1 : Option Addr) (c1 : Nat) (l1 : List (S46)) (a2 : Int) (r : Bool) (w : World) (hr0 : Kd.C k44 w A0 l0.length l0) (hc0 : l0.length ≤ c0) (hr1 : Kd.C k46 w A1 l1.length l1) (hc1 : l1.length ≤ c1) (h : cohousinglaw30_usable.f k l0 l1 a2 = some r) :
  Calls Try.prog 18 #[.slice A0 l0.length c0, .slice A1 l1.length c1, .int .i64 a2] w fun e w' => e = .returned (.bool r) ∧ Below w.heap.size w w' := by
 have HR0 := Aside0.mk hr0
 have HC0 := Aside0.mk hc0
 clear hr0 hc0
 have HR1 := Aside0.mk hr1
 have HC1 := Aside0.mk hc1
 clear hr1 hc1
 have HB := Aside0.mk (Below.refl w.heap.size w)
 have H : ((cohousingref30_Few.f l0 l1).bind fun t367 => (if t367 = true then ((cohousingref28_Valid.f k l0).bind fun t368 => (if t368 = true then ((cohousingref28_Belongs.f l0 l1).bind fun t369 => (if t369 = true then (if a2 ≥ 0 then (some (decide (a2 ≤ 3))) else (some false)) else (some false))) else (some false))) else (some false))) = some r := h
 clear h
 replace H := Option.bind_eq_some_iff.mp H
 obtain ⟨t367, A40, H⟩ := H
 replace H : (if t367 = true then ((cohousingref28_Valid.f k l0).bind fun t368 => (if t368 = true then ((cohousingref28_Belongs.f l0 l1).bind fun t369 => (if t369 = true then (if a2 ≥ 0 then (some (decide (a2 ≤ 3))) else (some false)) else (some false))) else (some false))) else (some false)) = some r := H
 have A4 := Aside0.mk A40
 clear A40
 by_cases c5 : t367 = true
 ·subst c5
  have H1 : ((cohousingref28_Valid.f k l0).bind fun t368 => (if t368 = true then ((cohousingref28_Belongs.f l0 l1).bind fun t369 => (if t369 = true then (if a2 ≥ 0 then (some (decide (a2 ≤ 3))) else (some false)) else (some false))) else (some false))) = some r := by rw [if_pos rfl] at H; exact H
  clear H
  have H := H1
  clear H1
  replace H := Option.bind_eq_some_iff.mp H
  obtain ⟨t368, A60, H⟩ := H
  replace H : (if t368 = true then ((cohousingref28_Belongs.f l0 l1).bind fun t369 => (if t369 = true then (if a2 ≥ 0 then (some (decide (a2 ≤ 3))) else (some false)) else (some false))) else (some false)) = some r := H
  have A6 := Aside0.mk A60
  clear A60
  by_cases c7 : t368 = true
  ·subst c7
   have H1 : ((cohousingref28_Belongs.f l0 l1).bind fun t369 => (if t369 = true then (if a2 ≥ 0 then (some (decide (a2 ≤ 3))) else (some false)) else (some false))) = some r := by rw [if_pos rfl] at H; exact H
   clear H
   have H := H1
   clear H1
   replace H := Option.bind_eq_some_iff.mp H
   obtain ⟨t369, A80, H⟩ := H
   replace H : (if t369 = true then (if a2 ≥ 0 then (some (decide (a2 ≤ 3))) else (some false)) else (some false)) = some r := H
   have A8 := Aside0.mk A80
   clear A80
   by_cases c9 : t369 = true
   ·subst c9
    have H1 : (if a2 ≥ 0 then (some (decide (a2 ≤ 3))) else (some false)) = some r := by rw [if_pos rfl] at H; exact H
    clear H
    have H := H1
    clear H1
    by_cases c10 : a2 ≥ 0
    ·rw [if_pos c10] at H
     have c10b0 : decide (0 ≤ a2) = true := decide_eq_true c10
     clear c10
     obtain rfl := Option.some.inj H
     go_enter Try.func18, Try.ntmps18
     go_wp2_with (first | ((with_reducible refine gate_callee (f := 12) rfl ?_); refine gl_ (some 9) Try.func12 #[.slice A0 l0.length c0, .slice A1 l1.length c1] ?_; (with_reducible refine (cohousingref30_Few.calls _ _ l0 _ _ l1 true _ ?side1 ?side2 ?side3 ?side4 A4.out).mono ?_); (case side1 => exact cc_ (HR0.out)); (case side2 => exact HC0.out); (case side3 => exact cc_ (HR1.out)); (case side4 => exact HC1.out); rintro e w' ⟨rfl, ⟨nd, rfl⟩⟩; refine ⟨_, rfl, ?_⟩) | (go_at_call 23; (with_reducible refine (cohousingref28_Valid.calls k _ _ l0 true _ ?side1 ?side2 A6.out).mono ?_); (case side1 => exact cc_ (HR0.out)); (case side2 => exact HC0.out); rintro e w11 ⟨rfl, hb⟩; have n0_ := Aside0.mk (below_step (bb_ HB) hb); clear HB; have HB := n0_; clear n0_; (try clear hb); (try clear hb2); (try clear hk); (try clear hi)) | (go_at_call 34; (with_reducible refine (cohousingref28_Belongs.calls _ _ l0 _ _ l1 true _ ?side1 ?side2 ?side3 ?side4 A8.out).mono ?_); (case side1 => exact cc_ ((Kd.C_below HR0.out HB.out))); (case side2 => exact HC0.out); (case side3 => exact cc_ ((Kd.C_below HR1.out HB.out))); (case side4 => exact HC1.out); rintro e w12 ⟨rfl, hb⟩; have n0_ := Aside0.mk (below_step (bb_ HB) hb); clear HB; have HB := n0_; clear n0_; (try clear hb); (try clear hb2); (try clear hk); (try clear hi)))
     go_ret
     exact ⟨ew_, by repeat (first | (with_reducible first | exact HB.out | apply below_alloc | apply pw_below_drewN | apply below_drew1) | exact HB.out)⟩
    ·rw [if_neg c10] at H
     have c10b0 : decide (0 ≤ a2) = false := decide_eq_false c10
     clear c10
     obtain rfl := Option.some.inj H
     go_enter Try.func18, Try.ntmps18
     go_wp2_with (first | ((with_reducible refine gate_callee (f := 12) rfl ?_); refine gl_ (some 9) Try.func12 #[.slice A0 l0.length c0, .slice A1 l1.length c1] ?_; (with_reducible refine (cohousingref30_Few.calls _ _ l0 _ _ l1 true _ ?side1 ?side2 ?side3 ?side4 A4.out).mono ?_); (case side1 => exact cc_ (HR0.out)); (case side2 => exact HC0.out); (case side3 => exact cc_ (HR1.out)); (case side4 => exact HC1.out); rintro e w' ⟨rfl, ⟨nd, rfl⟩⟩; refine ⟨_, rfl, ?_⟩) | (go_at_call 23; (with_reducible refine (cohousingref28_Valid.calls k _ _ l0 true _ ?side1 ?side2 A6.out).mono ?_); (case side1 => exact cc_ (HR0.out)); (case side2 => exact HC0.out); rintro e w13 ⟨rfl, hb⟩; have n0_ := Aside0.mk (below_step (bb_ HB) hb); clear HB; have HB := n0_; clear n0_; (try clear hb); (try clear hb2); (try clear hk); (try clear hi)) | (go_at_call 34; (with_reducible refine (cohousingref28_Belongs.calls _ _ l0 _ _ l1 true _ ?side1 ?side2 ?side3 ?side4 A8.out).mono ?_); (case side1 => exact cc_ ((Kd.C_below HR0.out HB.out))); (case side2 => exact HC0.out); (case side3 => exact cc_ ((Kd.C_below HR1.out HB.out))); (case side4 => exact HC1.out); rintro e w14 ⟨rfl, hb⟩; have n0_ := Aside0.mk (below_step (bb_ HB) hb); clear HB; have HB := n0_; clear n0_; (try clear hb); (try clear hb2); (try clear hk); (try clear hi)))
     go_ret
     exact ⟨ew_, by repeat (first | (with_reducible first | exact HB.out | apply below_alloc | apply pw_below_drewN | apply below_drew1) | exact HB.out)⟩
   ·replace c9 := Bool.eq_false_iff.mpr c9
    subst c9
    have H1 : (some false) = some r := by rw [if_neg (show ¬ (false = true) by decide)] at H; exact H
    clear H
    have H := H1
    clear H1
    obtain rfl := Option.some.inj H
    go_enter Try.func18, Try.ntmps18
    go_wp2_with (first | ((with_reducible refine gate_callee (f := 12) rfl ?_); refine gl_ (some 9) Try.func12 #[.slice A0 l0.length c0, .slice A1 l1.length c1] ?_; (with_reducible refine (cohousingref30_Few.calls _ _ l0 _ _ l1 true _ ?side1 ?side2 ?side3 ?side4 A4.out).mono ?_); (case side1 => exact cc_ (HR0.out)); (case side2 => exact HC0.out); (case side3 => exact cc_ (HR1.out)); (case side4 => exact HC1.out); rintro e w' ⟨rfl, ⟨nd, rfl⟩⟩; refine ⟨_, rfl, ?_⟩) | (go_at_call 23; (with_reducible refine (cohousingref28_Valid.calls k _ _ l0 true _ ?side1 ?side2 A6.out).mono ?_); (case side1 => exact cc_ (HR0.out)); (case side2 => exact HC0.out); rintro e w15 ⟨rfl, hb⟩; have n0_ := Aside0.mk (below_step (bb_ HB) hb); clear HB; have HB := n0_; clear n0_; (try clear hb); (try clear hb2); (try clear hk); (try clear hi)) | (go_at_call 34; (with_reducible refine (cohousingref28_Belongs.calls _ _ l0 _ _ l1 false _ ?side1 ?side2 ?side3 ?side4 A8.out).mono ?_); (case side1 => exact cc_ ((Kd.C_below HR0.out HB.out))); (case side2 => exact HC0.out); (case side3 => exact cc_ ((Kd.C_below HR1.out HB.out))); (case side4 => exact HC1.out); rintro e w16 ⟨rfl, hb⟩; have n0_ := Aside0.mk (below_step (bb_ HB) hb); clear HB; have HB := n0_; clear n0_; (try clear hb); (try clear hb2); (try clear hk); (try clear hi)))
    go_ret
    exact ⟨ew_, by repeat (first | (with_reducible first | exact HB.out | apply below_alloc | apply pw_below_drewN | apply below_drew1) | exact HB.out)⟩
  ·replace c7 := Bool.eq_false_iff.mpr c7
   subst c7
   have H1 : (some false) = some r := by rw [if_neg (show ¬ (false = true) by decide)] at H; exact H
   clear H
   have H := H1
   clear H1
   obtain rfl := Option.some.inj H
   go_enter Try.func18, Try.ntmps18
   go_wp2_with (first | ((with_reducible refine gate_callee (f := 12) rfl ?_); refine gl_ (some 9) Try.func12 #[.slice A0 l0.length c0, .slice A1 l1.length c1] ?_; (with_reducible refine (cohousingref30_Few.calls _ _ l0 _ _ l1 true _ ?side1 ?side2 ?side3 ?side4 A4.out).mono ?_); (case side1 => exact cc_ (HR0.out)); (case side2 => exact HC0.out); (case side3 => exact cc_ (HR1.out)); (case side4 => exact HC1.out); rintro e w' ⟨rfl, ⟨nd, rfl⟩⟩; refine ⟨_, rfl, ?_⟩) | (go_at_call 23; (with_reducible refine (cohousingref28_Valid.calls k _ _ l0 false _ ?side1 ?side2 A6.out).mono ?_); (case side1 => exact cc_ (HR0.out)); (case side2 => exact HC0.out); rintro e w17 ⟨rfl, hb⟩; have n0_ := Aside0.mk (below_step (bb_ HB) hb); clear HB; have HB := n0_; clear n0_; (try clear hb); (try clear hb2); (try clear hk); (try clear hi)))
   go_ret
   exact ⟨ew_, by repeat (first | (with_reducible first | exact HB.out | apply below_alloc | apply pw_below_drewN | apply below_drew1) | exact HB.out)⟩
 ·replace c5 := Bool.eq_false_iff.mpr c5
  subst c5
  have H1 : (some false) = some r := by rw [if_neg (show ¬ (false = true) by decide)] at H; exact H
  clear H
  have H := H1
  clear H1
  obtain rfl := Option.some.inj H
  go_enter Try.func18, Try.ntmps18
  go_wp2_with (first | ((with_reducible refine gate_callee (f := 12) rfl ?_); refine gl_ (some 9) Try.func12 #[.slice A0 l0.length c0, .slice A1 l1.length c1] ?_; (with_reducible refine (cohousingref30_Few.calls _ _ l0 _ _ l1 false _ ?side1 ?side2 ?side3 ?side4 A4.out).mono ?_); (case side1 => exact cc_ (HR0.out)); (case side2 => exact HC0.out); (case side3 => exact cc_ (HR1.out)); (case side4 => exact HC1.out); rintro e w' ⟨rfl, ⟨nd, rfl⟩⟩; refine ⟨_, rfl, ?_⟩))
  go_ret
  exact ⟨ew_, by repeat (first | (with_reducible first | exact HB.out | apply below_alloc | apply pw_below_drewN | apply below_drew1) | exact HB.out)⟩
end
section
def cohousingref30_Leaking.l0 : Nat → List Int → List (S44) → Int → Option ((List (S44)))
 | 0, _, _, _ => none
 | k + 1, x1, x5, x6 => if x6 < (x1.length : Int) then (if 0 ≤ x6 then (if 0 ≤ (rd x1 x6) then (if (rd x1 x6) < (x5.length : Int) then (cohousingref30_Leaking.l0 k x1 (x5.set ((rd x1 x6) : Int).toNat (⟨(rd_T44 x5 (rd x1 x6)).f0, (rd_T44 x5 (rd x1 x6)).f1, 1000000000⟩ : S44)) (wrap64 (x6 + 1))) else (none)) else (none)) else (none)) else (some x5)
def cohousingref30_Leaking.f (k : Nat) (l0 : List (S44)) (l1 : List Int) : Option ((List (S44))) := if ([] : List (S44)).length + l0.length < 5864062014805 then (cohousingref30_Leaking.l0 k l1 (([] : List (S44)) ++ l0) 0) else (none)
theorem cohousingref30_Leaking.calls (k : Nat) (A0 : Option Addr) (c0 : Nat) (l0 : List (S44)) (A1 : Option Addr) (c1 : Nat) (l1 : List Int) (r : List (S44)) (w : World) (hr0 : Kd.C k44 w A0 l0.length l0) (hc0 : l0.length ≤ c0) (hr1 : Kd.C (Kd.int .i64) w A1 l1.length l1) (hc1 : l1.length ≤ c1) (h : cohousingref30_Leaking.f k l0 l1 = some r) :
  Calls Try.prog 35 #[.slice A0 l0.length c0, .slice A1 l1.length c1] w fun e w' => ∃ v0_ : Value, e = .returned (v0_) ∧ Kd.R k44 44 w' w.heap.size (fun _ => True) v0_ r ∧ Below w.heap.size w w' := by
 have HR0 := Aside0.mk hr0
 have HC0 := Aside0.mk hc0
 clear hr0 hc0
 have HR1 := Aside0.mk hr1
 have HC1 := Aside0.mk hc1
 clear hr1 hc1
 have HB := Aside0.mk (Below.refl w.heap.size w)
 have H : (if ([] : List (S44)).length + l0.length < 5864062014805 then (cohousingref30_Leaking.l0 k l1 (([] : List (S44)) ++ l0) 0) else (none)) = some r := h
 clear h
 by_cases c3 : ([] : List (S44)).length + l0.length < 5864062014805
 ·rw [if_pos c3] at H
  have LMc3 := Aside0.mk c3
  clear c3
  obtain ⟨y188, hy188⟩ : ∃ y_ : List (S44), y_ = (([] : List (S44)) ++ l0) := ⟨_, rfl⟩
  replace H : (cohousingref30_Leaking.l0 k l1 y188 0) = some r := by first | (rw [hy188]; with_reducible exact H) | (have H2_ := (Option.bind_some _ _).symm.trans H; rw [hy188]; with_reducible exact H2_) | (have H2_ := (Option.bind_some _ _).symm.trans H; with_reducible exact H2_) | with_reducible exact H | (rw [hy188]; exact H) | exact H
  have Ny188 := Aside0.mk hy188
  clear hy188
  have H' := Aside0.mk H
  clear H
  go_enter Try.func35, Try.ntmps35
  go_wp2_with (first | ((with_reducible refine gate_builtin (b := .append) (xs := #[.tmp 7, .tmp 8]) rfl ?_); at_builtin; refine Kd.R_append_rows k44 (w0 := w) w.heap.size rfl (.tmp 7) (.tmp 8) 22 44 (.agg #[(.int .i64 0), (.int .i64 0), (.int .i64 0)]) 24 rfl Try.underlying22 info44 rfl (by decide) (by omega) (.slice none 0 0) ([] : List (S44)) l0 _ _ _ (fun _ => True) (fun _ => False) rfl rfl ?aO ?aR (fun _ _ h => h) (fun _ h => h.elim) ?aF ?aB ?aS ?aL ?_; (case aR => exact cc_ (HR0.out)); (case aB => exact (bb_ HB)); (case aF => exact (fun _ _ => trivial)); (case aO => exact ((Kd.R_nil _ _ _ _ (fun _ => True)))); (case aS => exact (below_size (bb_ HB))); (case aL => have := LMc3.out; omega); intro v189 w4 ho hb hg hat; rw [← Ny188.out] at ho; have n0_ := Aside0.mk (hb); have n1_ := Aside0.mk (ho); clear HB; have HB := n0_; have HO190 := n1_; clear n0_ n1_; clear ho hb hg hat))
  go_loopg [6] k (fun kq v6 w' => ∃ (x5_1 : List (S44)) (x6_1 : Int), v6 = .int .i64 x6_1 ∧ Aside0 (cohousingref30_Leaking.l0 kq l1 x5_1 x6_1 = some r) ∧ Aside0 (kq ≤ k) ∧ Aside0 (Kd.R k44 44 w' w.heap.size (fun _ => True) v189 x5_1) ∧ Aside0 (Below w.heap.size w w'))
  case atStart => exact ⟨(y188), (0), sd_, H', ⟨Nat.le_refl _⟩, ⟨by (with_reducible repeat (first | apply Kd.R_alloc | apply Kd.R_drewN | apply Kd.R_drew)); exact HO190.out⟩, ⟨by repeat (first | (with_reducible first | exact HB.out | apply below_alloc | apply pw_below_drewN | apply below_drew1) | exact HB.out)⟩⟩
  case round =>
   clear H'
   try clear c1
   try clear p2
   try clear c3
   obtain ⟨x5_1, x6_1, rfl, HA, HK1, HO_5, HB⟩ := hrel
   cases gk with
   | zero => exact absurd HA.out (by simp [cohousingref30_Leaking.l0])
   | succ k1 =>
    have H := HA.out
    clear HA
    simp only [cohousingref30_Leaking.l0] at H
    by_cases c5 : x6_1 < (l1.length : Int)
    ·rw [if_pos c5] at H
     have c5b0 : decide (x6_1 < (l1.length : Int)) = true := decide_eq_true c5
     clear c5
     by_cases c6 : 0 ≤ x6_1
     ·rw [if_pos c6] at H
      have c6b0 : decide (0 ≤ x6_1) = true := decide_eq_true c6
      clear c6
      by_cases c7 : 0 ≤ (rd l1 x6_1)
      ·rw [if_pos c7] at H
       have c7b0 : decide (0 ≤ (rd l1 x6_1)) = true := decide_eq_true c7
       clear c7
       by_cases c8 : (rd l1 x6_1) < (x5_1.length : Int)
       ·rw [if_pos c8] at H
        have c8b0 : decide ((rd l1 x6_1) < (x5_1.length : Int)) = true := decide_eq_true c8
        clear c8
        obtain ⟨y192, hy192⟩ : ∃ y_ : List (S44), y_ = (x5_1.set ((rd l1 x6_1) : Int).toNat (⟨(rd_T44 x5_1 (rd l1 x6_1)).f0, (rd_T44 x5_1 (rd l1 x6_1)).f1, 1000000000⟩ : S44)) := ⟨_, rfl⟩
        replace H : (cohousingref30_Leaking.l0 k1 l1 y192 (wrap64 (x6_1 + 1))) = some r := by first | (rw [hy192]; with_reducible exact H) | (have H2_ := (Option.bind_some _ _).symm.trans H; rw [hy192]; with_reducible exact H2_) | (have H2_ := (Option.bind_some _ _).symm.trans H; with_reducible exact H2_) | with_reducible exact H | (rw [hy192]; exact H) | exact H
        have Ny192 := Aside0.mk hy192
        clear hy192
        have H' := Aside0.mk H
        clear H
        have p191 : 0 ≤ (x6_1 : Int) := od_
        have q191 : x6_1 < (l1.length : Int) := od_
        obtain ⟨ad191, e191, hx191_0⟩ := Kd.at_int HR1.out x6_1 p191 q191
        cases e191
        replace hx191_0 := (HB.out.cell (World.block_lt_of_cell? w _ hx191_0)).trans hx191_0
        replace p191 := eq_true p191
        replace q191 := eq_true q191
        have p9 : 0 ≤ ((rd l1 x6_1) : Int) := od_
        have q9 : ((rd l1 x6_1) : Int) < ((x5_1.length : Int) : Int) := od_
        obtain ⟨go9, co9, eo9, gb9, gl9, cl9, HG9⟩ := Kd.R_form HO_5.out (by omega)
        (first | cases eo9 | (injection eo9 with ea_ en_ ec_; (first | subst ea_ | (injection ea_ with ea_; subst ea_)); subst ec_; clear en_))
        have GB9 := Aside0.mk gb9
        have GG9 := Aside0.mk HG9
        clear gb9 gl9 HG9
        obtain ⟨ce9, hcl9, hM9, hcc9, hfr9⟩ := Kd.R_elem HO_5.out z44 ((rd l1 x6_1) : Int) p9 q9
        obtain rfl := k44_openM hM9
        have hx9_0 : wr.cell? ⟨go9, ((rd l1 x6_1) : Int).toNat * 3, none⟩ = some (.int .i64 ((rd_T44 x5_1 (rd l1 x6_1)).f0)) := hcc9 0 _ rfl
        have hx9_1 : wr.cell? ⟨go9, ((rd l1 x6_1) : Int).toNat * 3 + 1, none⟩ = some (.int .i64 ((rd_T44 x5_1 (rd l1 x6_1)).f1)) := hcc9 1 _ rfl
        have hx9_2 : wr.cell? ⟨go9, ((rd l1 x6_1) : Int).toNat * 3 + 2, none⟩ = some (.int .i64 ((rd_T44 x5_1 (rd l1 x6_1)).f2)) := hcc9 2 _ rfl
        have hf9_0 : wr.frozen? ⟨go9, ((rd l1 x6_1) : Int).toNat * 3, none⟩ = false := hfr9 0
        have hf9_1 : wr.frozen? ⟨go9, ((rd l1 x6_1) : Int).toNat * 3 + 1, none⟩ = false := hfr9 1
        have hf9_2 : wr.frozen? ⟨go9, ((rd l1 x6_1) : Int).toNat * 3 + 2, none⟩ = false := hfr9 2
        clear hcl9 hcc9 hfr9 hM9
        replace p9 := eq_true p9
        replace q9 := eq_true q9
        have HX10 := Aside0.mk (show Kd.R k44 44 wr w.heap.size (fun _ => True) (.slice (some ⟨go9, 0, none⟩) x5_1.length co9) x5_1 from (rr_ HO_5))
        obtain ⟨ce10, hcl10, hM10, hcc10, hfr10⟩ := Kd.R_elem HX10.out z44 ((rd l1 x6_1) : Int) (od_) (by have h_ : ((rd l1 x6_1) : Int) < ((x5_1.length : Int) : Int) := od_; first | exact h_ | (have e_ := (Kd.R_reads' HO_5.out).1; omega) | simpa using h_)
        obtain rfl := k44_openM hM10
        have HP10 := Kd.R_seg HX10.out ((rd l1 x6_1) : Int) (od_) (by have h_ : ((rd l1 x6_1) : Int) < ((x5_1.length : Int) : Int) := od_; first | exact h_ | (have e_ := (Kd.R_reads' HO_5.out).1; omega) | simpa using h_) (seg := [.int .i64 1000000000]) (j := 2) hcl10 hcc10 (show 3 ≤ 3 from by decide) (x' := (⟨(rd_T44 x5_1 (rd l1 x6_1)).f0, (rd_T44 x5_1 (rd l1 x6_1)).f1, 1000000000⟩ : S44)) (k44_mkM _ _ _ (⟨(rd_T44 x5_1 (rd l1 x6_1)).f0, (rd_T44 x5_1 (rd l1 x6_1)).f1, 1000000000⟩ : S44) ) (fun _ hk => hk)
        have hx10_2 := hcc10 2 _ rfl
        (try simp only [show (k44).sz = 3 from rfl, Nat.mul_one, Nat.add_zero] at hx10_2)
        have hf10_2 := hfr10 2
        (try simp only [show (k44).sz = 3 from rfl, Nat.mul_one, Nat.add_zero] at hf10_2)
        clear hcl10 hcc10 hfr10 hM10
        go_wp2_with (first | ((with_reducible refine gate_store (t := 3) (p := 22) rfl ?_); refine store_event (t := 3) (p := 22) (v := ?vo_w11) (w1 := (wr.setCell ⟨go9, ((rd l1 x6_1) : Int).toNat * 3 + 2, none⟩ (.int .i64 1000000000))) ?hg ?ho ?hn ?hr ?_; (case ho => rfl); (case hg => rfl); (case hn => rfl); (case hr => first | (go_simp; done) | (go_simp; rfl)); intro w11 hw; have hg : wr.grownBy w11 (some go9) := (by rw [hw]; exact HP10.2); have hp_ : Kd.R k44 44 w11 w.heap.size (fun _ => True) (.slice (some ⟨go9, 0, none⟩) x5_1.length co9) y192 := (by rw [hw, Ny192.out]; exact HP10.1); clear HP10; have n0_ := Aside0.mk (hp_); have n1_ := Aside0.mk ((by rw [hw]; exact below_set (HB.out) GB9.out : Below w.heap.size w w11)); clear HO_5; clear HB; have HO_5 := n0_; have HB := n1_; clear n0_ n1_; clear hg hw hp_))
        go_roundg k1
        case measure => have := HK1.out; omega
        case rel => exact ⟨(y192), (wrap64 (x6_1 + 1)), sd_, H', ⟨by have := HK1.out; omega⟩, ⟨by (with_reducible repeat (first | apply Kd.R_alloc | apply Kd.R_drewN | apply Kd.R_drew)); exact HO_5.out⟩, ⟨by repeat (first | (with_reducible first | exact HB.out | apply below_alloc | apply pw_below_drewN | apply below_drew1) | exact HB.out)⟩⟩
       ·rw [if_neg c8] at H
        exact absurd H (by simp)
      ·rw [if_neg c7] at H
       exact absurd H (by simp)
     ·rw [if_neg c6] at H
      exact absurd H (by simp)
    ·rw [if_neg c5] at H
     have c5b0 : decide (x6_1 < (l1.length : Int)) = false := decide_eq_false c5
     clear c5
     obtain rfl := Option.some.inj H
     go_wp2
     go_ret
     exact ⟨_, ew_, by (with_reducible repeat (first | apply Kd.R_alloc | apply Kd.R_drewN | apply Kd.R_drew)); exact HO_5.out, by repeat (first | (with_reducible first | exact HB.out | apply below_alloc | apply pw_below_drewN | apply below_drew1) | exact HB.out)⟩
 ·rw [if_neg c3] at H
  exact absurd H (by simp)
end
section
def cohousinglaw30_explains.l0 : Nat → List (S44) → List (S46) → List Int → List Int → Int → Int → Option (Bool)
 | 0, _, _, _, _, _, _ => none
 | k + 1, x0, x1, x2, x11, x12, x13 => if x13 < x12 then (if 0 ≤ x13 then (if x13 < (x11.length : Int) then (if (rd x11 x13) < 0 then (some false) else (if (rd x11 x13) ≥ (x0.length : Int) then (some false) else (if x13 > 0 then (if 0 ≤ (wrap64 (x13 - 1)) then (if (wrap64 (x13 - 1)) < (x2.length : Int) then (if (rd x11 x13) ≤ (rd x2 (wrap64 (x13 - 1))) then (some false) else (cohousinglaw30_explains.l0 k x0 x1 x2 x11 x12 (wrap64 (x13 + 1)))) else (none)) else (none)) else (cohousinglaw30_explains.l0 k x0 x1 x2 x11 x12 (wrap64 (x13 + 1)))))) else (none)) else (none)) else ((cohousingref30_Leaking.f k x0 x2).bind fun t372 => ((flow_Bounds.f t372 x1).bind fun bt375 => (some (bt375.2 == 0))))
def cohousinglaw30_explains.f (k : Nat) (l0 : List (S44)) (l1 : List (S46)) (l2 : List Int) : Option (Bool) := cohousinglaw30_explains.l0 k l0 l1 l2 l2 (l2.length : Int) 0
theorem cohousinglaw30_explains.calls (k : Nat) (A0 : Option Addr) (c0 : Nat) (l0 : List (S44)) (A1 : Option Addr) (c1 : Nat) (l1 : List (S46)) (A2 : Option Addr) (c2 : Nat) (l2 : List Int) (r : Bool) (w : World) (hr0 : Kd.C k44 w A0 l0.length l0) (hc0 : l0.length ≤ c0) (hr1 : Kd.C k46 w A1 l1.length l1) (hc1 : l1.length ≤ c1) (hr2 : Kd.C (Kd.int .i64) w A2 l2.length l2) (hc2 : l2.length ≤ c2) (h : cohousinglaw30_explains.f k l0 l1 l2 = some r) :
  Calls Try.prog 19 #[.slice A0 l0.length c0, .slice A1 l1.length c1, .slice A2 l2.length c2] w fun e w' => e = .returned (.bool r) ∧ Below w.heap.size w w' := by
 have HR0 := Aside0.mk hr0
 have HC0 := Aside0.mk hc0
 clear hr0 hc0
 have HR1 := Aside0.mk hr1
 have HC1 := Aside0.mk hc1
 clear hr1 hc1
 have HR2 := Aside0.mk hr2
 have HC2 := Aside0.mk hc2
 clear hr2 hc2
 have HB := Aside0.mk (Below.refl w.heap.size w)
 have H : (cohousinglaw30_explains.l0 k l0 l1 l2 l2 (l2.length : Int) 0) = some r := h
 clear h
 have H' := Aside0.mk H
 clear H
 go_enter Try.func19, Try.ntmps19
 go_wp2
 go_loopg [13] k (fun kq v13 w' => ∃ (x13_1 : Int), v13 = .int .i64 x13_1 ∧ Aside0 (cohousinglaw30_explains.l0 kq l0 l1 l2 l2 (l2.length : Int) x13_1 = some r) ∧ Aside0 (kq ≤ k) ∧ Aside0 (Below w.heap.size w w'))
 case atStart => exact ⟨(0), sd_, H', ⟨Nat.le_refl _⟩, ⟨by repeat (first | (with_reducible first | exact HB.out | apply below_alloc | apply pw_below_drewN | apply below_drew1) | exact HB.out)⟩⟩
 case round =>
  clear H'
  try clear c1
  try clear c2
  try clear p2
  obtain ⟨x13_1, rfl, HA, HK1, HB⟩ := hrel
  cases gk with
  | zero => exact absurd HA.out (by simp [cohousinglaw30_explains.l0])
  | succ k1 =>
   have H := HA.out
   clear HA
   simp only [cohousinglaw30_explains.l0] at H
   by_cases c4 : x13_1 < (l2.length : Int)
   ·rw [if_pos c4] at H
    have c4b0 : decide (x13_1 < (l2.length : Int)) = true := decide_eq_true c4
    clear c4
    by_cases c5 : 0 ≤ x13_1
    ·rw [if_pos c5] at H
     have c5b0 : decide (0 ≤ x13_1) = true := decide_eq_true c5
     clear c5
     by_cases c6 : x13_1 < (l2.length : Int)
     ·rw [if_pos c6] at H
      have c6b0 : decide (x13_1 < (l2.length : Int)) = true := decide_eq_true c6
      clear c6
      by_cases c7 : (rd l2 x13_1) < 0
      ·rw [if_pos c7] at H
       have c7b0 : decide ((rd l2 x13_1) < 0) = true := decide_eq_true c7
       clear c7
       obtain rfl := Option.some.inj H
       have p370 : 0 ≤ (x13_1 : Int) := od_
       have q370 : x13_1 < (l2.length : Int) := od_
       obtain ⟨ad370, e370, hx370_0⟩ := Kd.at_int HR2.out x13_1 p370 q370
       cases e370
       replace hx370_0 := (HB.out.cell (World.block_lt_of_cell? w _ hx370_0)).trans hx370_0
       replace p370 := eq_true p370
       replace q370 := eq_true q370
       go_wp2
       go_ret
       exact ⟨ew_, by repeat (first | (with_reducible first | exact HB.out | apply below_alloc | apply pw_below_drewN | apply below_drew1) | exact HB.out)⟩
      ·rw [if_neg c7] at H
       have c7b0 : decide ((rd l2 x13_1) < 0) = false := decide_eq_false c7
       clear c7
       by_cases c8 : (rd l2 x13_1) ≥ (l0.length : Int)
       ·rw [if_pos c8] at H
        have c8b0 : decide ((l0.length : Int) ≤ (rd l2 x13_1)) = true := decide_eq_true c8
        clear c8
        obtain rfl := Option.some.inj H
        have p370 : 0 ≤ (x13_1 : Int) := od_
        have q370 : x13_1 < (l2.length : Int) := od_
        obtain ⟨ad370, e370, hx370_0⟩ := Kd.at_int HR2.out x13_1 p370 q370
        cases e370
        replace hx370_0 := (HB.out.cell (World.block_lt_of_cell? w _ hx370_0)).trans hx370_0
        replace p370 := eq_true p370
        replace q370 := eq_true q370
        go_wp2
        go_ret
        exact ⟨ew_, by repeat (first | (with_reducible first | exact HB.out | apply below_alloc | apply pw_below_drewN | apply below_drew1) | exact HB.out)⟩
       ·rw [if_neg c8] at H
        have c8b0 : decide ((l0.length : Int) ≤ (rd l2 x13_1)) = false := decide_eq_false c8
        clear c8
        by_cases c9 : x13_1 > 0
        ·rw [if_pos c9] at H
         have c9b0 : decide (0 < x13_1) = true := decide_eq_true c9
         clear c9
         obtain ⟨ji10, hji10⟩ : ∃ j_ : Int, (wrap64 (x13_1 - 1)) = j_ := ⟨_, rfl⟩
         replace H : (if 0 ≤ (ji10) then (if (ji10) < (l2.length : Int) then (if (rd l2 x13_1) ≤ (rd l2 (ji10)) then (some false) else (cohousinglaw30_explains.l0 k1 l0 l1 l2 l2 (l2.length : Int) (wrap64 (x13_1 + 1)))) else (none)) else (none)) = some r := by first | (rw [hji10] at H; exact H) | (simp only [hji10] at H ⊢; exact H)
         have hji10w : (IntKind.i64.wrap (x13_1 - 1)) = ji10 := (i64_w _).trans hji10
         by_cases c11 : 0 ≤ (ji10)
         ·rw [if_pos c11] at H
          have c11b0 : decide (0 ≤ (ji10)) = true := decide_eq_true c11
          clear c11
          by_cases c12 : (ji10) < (l2.length : Int)
          ·rw [if_pos c12] at H
           have c12b0 : decide ((ji10) < (l2.length : Int)) = true := decide_eq_true c12
           clear c12
           by_cases c13 : (rd l2 x13_1) ≤ (rd l2 (ji10))
           ·rw [if_pos c13] at H
            have c13b0 : decide ((rd l2 x13_1) ≤ (rd l2 (ji10))) = true := decide_eq_true c13
            clear c13
            obtain rfl := Option.some.inj H
            have p370 : 0 ≤ (x13_1 : Int) := od_
            have q370 : x13_1 < (l2.length : Int) := od_
            obtain ⟨ad370, e370, hx370_0⟩ := Kd.at_int HR2.out x13_1 p370 q370
            cases e370
            replace hx370_0 := (HB.out.cell (World.block_lt_of_cell? w _ hx370_0)).trans hx370_0
            replace p370 := eq_true p370
            replace q370 := eq_true q370
            have p371 : 0 ≤ ((ji10) : Int) := od_
            have q371 : (ji10) < (l2.length : Int) := od_
            obtain ⟨ad371, e371, hx371_0⟩ := Kd.at_int HR2.out (ji10) p371 q371
            obtain rfl : ad370 = ad371 := (by injection e371)
            replace hx371_0 := (HB.out.cell (World.block_lt_of_cell? w _ hx371_0)).trans hx371_0
            replace p371 := eq_true p371
            replace q371 := eq_true q371
            go_wp2
            go_ret
            exact ⟨by first | rfl | (simp [errW_none, errW_some] <;> rfl) | (simp only [← hji10]; first | rfl | (simp [errW_none, errW_some] <;> rfl)) | (simp [*, errW_none, errW_some] <;> rfl), by repeat (first | (with_reducible first | exact HB.out | apply below_alloc | apply pw_below_drewN | apply below_drew1) | exact HB.out)⟩
           ·rw [if_neg c13] at H
            have c13b0 : decide ((rd l2 x13_1) ≤ (rd l2 (ji10))) = false := decide_eq_false c13
            clear c13
            have H' := Aside0.mk H
            clear H
            have p370 : 0 ≤ (x13_1 : Int) := od_
            have q370 : x13_1 < (l2.length : Int) := od_
            obtain ⟨ad370, e370, hx370_0⟩ := Kd.at_int HR2.out x13_1 p370 q370
            cases e370
            replace hx370_0 := (HB.out.cell (World.block_lt_of_cell? w _ hx370_0)).trans hx370_0
            replace p370 := eq_true p370
            replace q370 := eq_true q370
            have p371 : 0 ≤ ((ji10) : Int) := od_
            have q371 : (ji10) < (l2.length : Int) := od_
            obtain ⟨ad371, e371, hx371_0⟩ := Kd.at_int HR2.out (ji10) p371 q371
            obtain rfl : ad370 = ad371 := (by injection e371)
            replace hx371_0 := (HB.out.cell (World.block_lt_of_cell? w _ hx371_0)).trans hx371_0
            replace p371 := eq_true p371
            replace q371 := eq_true q371
            go_wp2
            go_roundg k1
            case measure => have := HK1.out; omega
            case rel => exact ⟨(wrap64 (x13_1 + 1)), sd_, H', ⟨by have := HK1.out; omega⟩, ⟨by repeat (first | (with_reducible first | exact HB.out | apply below_alloc | apply pw_below_drewN | apply below_drew1) | exact HB.out)⟩⟩
          ·rw [if_neg c12] at H
           exact absurd H (by simp)
         ·rw [if_neg c11] at H
          exact absurd H (by simp)
        ·rw [if_neg c9] at H
         have c9b0 : decide (0 < x13_1) = false := decide_eq_false c9
         clear c9
         have H' := Aside0.mk H
         clear H
         have p370 : 0 ≤ (x13_1 : Int) := od_
         have q370 : x13_1 < (l2.length : Int) := od_
         obtain ⟨ad370, e370, hx370_0⟩ := Kd.at_int HR2.out x13_1 p370 q370
         cases e370
         replace hx370_0 := (HB.out.cell (World.block_lt_of_cell? w _ hx370_0)).trans hx370_0
         replace p370 := eq_true p370
         replace q370 := eq_true q370
         go_wp2
         go_roundg k1
         case measure => have := HK1.out; omega
         case rel => exact ⟨(wrap64 (x13_1 + 1)), sd_, H', ⟨by have := HK1.out; omega⟩, ⟨by repeat (first | (with_reducible first | exact HB.out | apply below_alloc | apply pw_below_drewN | apply below_drew1) | exact HB.out)⟩⟩
     ·rw [if_neg c6] at H
      exact absurd H (by simp)
    ·rw [if_neg c5] at H
     exact absurd H (by simp)
   ·rw [if_neg c4] at H
    have c4b0 : decide (x13_1 < (l2.length : Int)) = false := decide_eq_false c4
    clear c4
    replace H := Option.bind_eq_some_iff.mp H
    obtain ⟨t372, A140, H⟩ := H
    replace H : ((flow_Bounds.f t372 l1).bind fun bt375 => (some (bt375.2 == 0))) = some r := H
    have A14 := Aside0.mk A140
    clear A140
    replace H := Option.bind_eq_some_iff.mp H
    obtain ⟨⟨t375, t376⟩, A150, H⟩ := H
    replace H : (some (t376 == 0)) = some r := H
    have A15 := Aside0.mk A150
    clear A150
    obtain rfl := Option.some.inj H
    go_wp2_with (first | ((with_reducible refine gate_callee (f := 35) rfl ?_); refine gl_ (some 43) Try.func35 #[.slice A0 l0.length c0, .slice A2 l2.length c2] ?_; (with_reducible refine (cohousingref30_Leaking.calls k1 _ _ l0 _ _ l2 t372 _ ?side1 ?side2 ?side3 ?side4 A14.out).mono ?_); (case side1 => exact cc_ ((Kd.C_below HR0.out HB.out))); (case side2 => exact HC0.out); (case side3 => exact cc_ ((Kd.C_below HR2.out HB.out))); (case side4 => exact HC2.out); rintro e w16 ⟨v373, rfl, ho0, hb⟩; refine ⟨_, rfl, ?_⟩; have n0_ := Aside0.mk (Kd.R_lower ho0 (below_size (bb_ HB))); have n1_ := Aside0.mk (below_step (bb_ HB) hb); clear HB; have HO374 := n0_; have HB := n1_; clear n0_ n1_; (try clear hb); (try clear hb2); (try clear hk); (try clear hi); (try clear ho0); obtain ⟨Ao17, co17, eo17⟩ := Kd.R_slice HO374.out; subst eo17) | ((with_reducible refine gate_callee (f := 22) rfl ?_); refine gl_ (some 45) Try.func22 #[.slice Ao17 t372.length co17, .slice A1 l1.length c1] ?_; (with_reducible refine (flow_Bounds.calls _ _ t372 _ _ l1 t375 t376 _ ?side1 ?side2 ?side3 ?side4 A15.out).mono ?_); (case side1 => exact cc_ ((Kd.R_reads' HO374.out).2.2)); (case side2 => exact (Kd.R_reads' HO374.out).2.1); (case side3 => exact cc_ ((Kd.C_below HR1.out HB.out))); (case side4 => exact HC1.out); rintro e w18 ⟨v377, rfl, ho0, hb⟩; refine ⟨_, rfl, ?_⟩; have n0_ := Aside0.mk (Kd.R_below (rr_ HO374) hb); have n1_ := Aside0.mk (Kd.R_lower ho0 (below_size (bb_ HB))); have n2_ := Aside0.mk (below_step (bb_ HB) hb); clear HO374; clear HB; have HO374 := n0_; have HO378 := n1_; have HB := n2_; clear n0_ n1_ n2_; (try clear hb); (try clear hb2); (try clear hk); (try clear hi); (try clear ho0)))
    go_ret
    exact ⟨ew_, by repeat (first | (with_reducible first | exact HB.out | apply below_alloc | apply pw_below_drewN | apply below_drew1) | exact HB.out)⟩
end
section
def cohousingref30_Has.l0 : Nat → List Int → Int → Int → Option (Bool)
 | 0, _, _, _ => none
 | k + 1, x0, x1, x5 => if x5 < (x0.length : Int) then (if 0 ≤ x5 then (if (rd x0 x5) = x1 then (some true) else (cohousingref30_Has.l0 k x0 x1 (wrap64 (x5 + 1)))) else (none)) else (some false)
def cohousingref30_Has.f (k : Nat) (l0 : List Int) (a1 : Int) : Option (Bool) := cohousingref30_Has.l0 k l0 a1 0
theorem cohousingref30_Has.calls (k : Nat) (A0 : Option Addr) (c0 : Nat) (l0 : List Int) (a1 : Int) (r : Bool) (w : World) (hr0 : Kd.C (Kd.int .i64) w A0 l0.length l0) (hc0 : l0.length ≤ c0) (h : cohousingref30_Has.f k l0 a1 = some r) :
  Calls Try.prog 21 #[.slice A0 l0.length c0, .int .i64 a1] w fun e w' => e = .returned (.bool r) ∧ Drawn0 w w' := by
 have HR0 := Aside0.mk hr0
 have HC0 := Aside0.mk hc0
 clear hr0 hc0
 have H : (cohousingref30_Has.l0 k l0 a1 0) = some r := h
 clear h
 have H' := Aside0.mk H
 clear H
 go_enter Try.func21, Try.ntmps21
 go_wp2
 go_loopg [5] k (fun kq v5 w' => ∃ (x5_1 : Int), v5 = .int .i64 x5_1 ∧ Aside0 (cohousingref30_Has.l0 kq l0 a1 x5_1 = some r) ∧ Aside0 (kq ≤ k) ∧ Drawn0 w w')
 case atStart => exact ⟨(0), sd_, H', ⟨Nat.le_refl _⟩, by repeat (first | exact Drawn0.refl _ | apply Drawn0.step)⟩
 case round =>
  clear H'
  try clear c2
  try clear p2
  obtain ⟨x5_1, rfl, HA, HK1, ⟨m1, rfl⟩⟩ := hrel
  cases gk with
  | zero => exact absurd HA.out (by simp [cohousingref30_Has.l0])
  | succ k1 =>
   have H := HA.out
   clear HA
   simp only [cohousingref30_Has.l0] at H
   by_cases c3 : x5_1 < (l0.length : Int)
   ·rw [if_pos c3] at H
    have c3b0 : decide (x5_1 < (l0.length : Int)) = true := decide_eq_true c3
    clear c3
    by_cases c4 : 0 ≤ x5_1
    ·rw [if_pos c4] at H
     have c4b0 : decide (0 ≤ x5_1) = true := decide_eq_true c4
     clear c4
     by_cases c5 : (rd l0 x5_1) = a1
     ·rw [if_pos c5] at H
      have c5b0 : ((rd l0 x5_1) == a1) = true := beq_iff_eq.mpr c5
      have c5b1 : ((rd l0 x5_1) != a1) = false := bne_eq_false_iff_eq.mpr c5
      clear c5
      obtain rfl := Option.some.inj H
      have p306 : 0 ≤ (x5_1 : Int) := od_
      have q306 : x5_1 < (l0.length : Int) := od_
      obtain ⟨ad306, e306, hx306_0⟩ := Kd.at_int HR0.out x5_1 p306 q306
      cases e306
      replace p306 := eq_true p306
      replace q306 := eq_true q306
      go_wp2
      go_ret
      exact ⟨by first | rfl | (simp; done) | (simp [*]; done), by repeat (first | exact Drawn0.refl _ | apply Drawn0.step)⟩
     ·rw [if_neg c5] at H
      have c5b0 : ((rd l0 x5_1) == a1) = false := beq_eq_false_iff_ne.mpr c5
      have c5b1 : ((rd l0 x5_1) != a1) = true := bne_iff_ne.mpr c5
      have H' := Aside0.mk H
      clear H
      have p306 : 0 ≤ (x5_1 : Int) := od_
      have q306 : x5_1 < (l0.length : Int) := od_
      obtain ⟨ad306, e306, hx306_0⟩ := Kd.at_int HR0.out x5_1 p306 q306
      cases e306
      replace p306 := eq_true p306
      replace q306 := eq_true q306
      go_wp2
      go_roundg k1
      case measure => have := HK1.out; omega
      case rel => exact ⟨(wrap64 (x5_1 + 1)), sd_, H', ⟨by have := HK1.out; omega⟩, by repeat (first | exact Drawn0.refl _ | apply Drawn0.step)⟩
    ·rw [if_neg c4] at H
     exact absurd H (by simp)
   ·rw [if_neg c3] at H
    have c3b0 : decide (x5_1 < (l0.length : Int)) = false := decide_eq_false c3
    clear c3
    obtain rfl := Option.some.inj H
    go_wp2
    go_ret
    exact ⟨by first | rfl | (simp; done) | (simp [*]; done), by repeat (first | exact Drawn0.refl _ | apply Drawn0.step)⟩
end
end Go.Proofs.Ytolmjhpapidmhaa.P
end
section
namespace Go.Proofs.FlowTree
def sm (f : Nat → Int) (ks : List Nat) : Int := (ks.map f).foldl (· + ·) 0
theorem foldl_add (l : List Int) : ∀ a : Int, l.foldl (· + ·) a = a + l.foldl (· + ·) 0 := by
 induction l with
 | nil => intro a; simp
 | cons x l ih => intro a; rw [List.foldl_cons, List.foldl_cons, ih (a + x), ih (0 + x)]; omega
theorem sm_nil (f : Nat → Int) : sm f [] = 0 := rfl
theorem sm_cons (f : Nat → Int) (k : Nat) (ks : List Nat) : sm f (k :: ks) = f k + sm f ks := by
 unfold sm
 rw [List.map_cons, List.foldl_cons, foldl_add]; omega
theorem sm_congr {f g : Nat → Int} {ks : List Nat} (h : ∀ k ∈ ks, f k = g k) : sm f ks = sm g ks := by
 induction ks with
 | nil => rfl
 | cons k ks ih => rw [sm_cons, sm_cons, h k (by simp), ih (fun j hj => h j (by simp [hj]))]
theorem sm_le {f g : Nat → Int} {ks : List Nat} (h : ∀ k ∈ ks, f k ≤ g k) : sm f ks ≤ sm g ks := by
 induction ks with
 | nil => exact Int.le_refl _
 | cons k ks ih => rw [sm_cons, sm_cons]; have := h k (by simp); have := ih (fun j hj => h j (by simp [hj])); omega
theorem sm_bound {f : Nat → Int} {ks : List Nat} {a b : Int} (h : ∀ k ∈ ks, a ≤ f k ∧ f k ≤ b) : a * ks.length ≤ sm f ks ∧ sm f ks ≤ b * ks.length := by
 induction ks with
 | nil => simp [sm_nil]
 | cons k ks ih =>
  rw [sm_cons]
  have h1 := h k (by simp)
  have h2 := ih (fun j hj => h j (by simp [hj]))
  simp only [List.length_cons, Int.natCast_add, Int.natCast_one, Int.mul_add, Int.mul_one]
  omega
theorem sm_nonneg {f : Nat → Int} {ks : List Nat} (h : ∀ k ∈ ks, 0 ≤ f k) : 0 ≤ sm f ks := by
 induction ks with
 | nil => exact Int.le_refl _
 | cons k ks ih => rw [sm_cons]; have := h k (by simp); have := ih (fun j hj => h j (by simp [hj])); omega
theorem sm_append (f : Nat → Int) (a b : List Nat) : sm f (a ++ b) = sm f a + sm f b := by
 induction a with
 | nil => simp [sm_nil]
 | cons x a ih => rw [List.cons_append, sm_cons, sm_cons, ih]; omega
theorem sm_split (f : Nat → Int) {ks : List Nat} {k : Nat} (hk : k ∈ ks) : ∃ a b, ks = a ++ k :: b ∧ sm f ks = f k + sm f (a ++ b) := by
 obtain ⟨a, b, rfl⟩ := List.append_of_mem hk
 exact ⟨a, b, rfl, by rw [sm_append, sm_append, sm_cons]; omega⟩
theorem fill (lo hi : Nat → Int) (ks : List Nat) (hn : ks.Nodup) (h : ∀ k ∈ ks, lo k ≤ hi k) : ∀ s, sm lo ks ≤ s → s ≤ sm hi ks → ∃ c : Nat → Int, (∀ k ∈ ks, lo k ≤ c k ∧ c k ≤ hi k) ∧ sm c ks = s := by
 induction ks with
 | nil => intro s h1 h2; exact ⟨fun _ => 0, (fun k hk => by cases hk), (by rw [sm_nil] at *; omega)⟩
 | cons k ks ih =>
  intro s h1 h2
  rw [sm_cons] at h1 h2
  have hk := h k (by simp)
  have hle := sm_le (fun j hj => h j (List.mem_cons_of_mem _ hj))
  rw [List.nodup_cons] at hn
  have key : ∃ v, lo k ≤ v ∧ v ≤ hi k ∧ sm lo ks ≤ s - v ∧ s - v ≤ sm hi ks := by
   by_cases hc : s - lo k ≤ sm hi ks
   ·exact ⟨lo k, by omega, by omega, by omega, by omega⟩
   ·exact ⟨s - sm hi ks, by omega, by omega, by omega, by omega⟩
  obtain ⟨v, hv1, hv2, hv3, hv4⟩ := key
  obtain ⟨c, hc, hs⟩ := ih hn.2 (fun j hj => h j (List.mem_cons_of_mem _ hj)) (s - v) hv3 hv4
  refine ⟨fun j => if j = k then v else c j, ?_, ?_⟩
  ·intro j hj
   rcases List.mem_cons.1 hj with rfl | hj
   ·simp only [if_true]; exact ⟨hv1, hv2⟩
   ·have : j ≠ k := fun e => hn.1 (e ▸ hj)
    simp only [this, if_false]; exact hc j hj
  ·rw [sm_cons]
   simp only [if_true]
   rw [sm_congr (g := c) (fun j hj => by have : j ≠ k := fun e => hn.1 (e ▸ hj); simp [this]), hs]; omega
structure Net where
 n : Nat
 kid : Nat → List Nat
 loss : Nat → Int
structure Net.Ok (T : Net) : Prop where
 lt : ∀ i k, k ∈ T.kid i → i < k ∧ k < T.n
 nodup : ∀ i, (T.kid i).Nodup
 one : ∀ i j k, k ∈ T.kid i → k ∈ T.kid j → i = j
 loss0 : ∀ i, i < T.n → 0 ≤ T.loss i
def Net.eq (T : Net) (x : Nat → Int) (i : Nat) : Prop := T.kid i ≠ [] → 0 ≤ x i - sm x (T.kid i) ∧ x i - sm x (T.kid i) ≤ T.loss i
def Sol (T : Net) (lo hi : Nat → Int) (x : Nat → Int) : Prop := (∀ i, i < T.n → lo i ≤ x i ∧ x i ≤ hi i) ∧ ∀ i, i < T.n → T.eq x i
theorem eq_congr {T : Net} {x y : Nat → Int} {i : Nat} (h0 : x i = y i) (h : ∀ k ∈ T.kid i, x k = y k) (hx : T.eq x i) : T.eq y i := by
 intro hk
 have := hx hk
 rw [sm_congr h, h0] at this
 exact this
theorem extend (T : Net) (hT : T.Ok) (lo hi : Nat → Int) (hne : ∀ i, i < T.n → lo i ≤ hi i) (hup : ∀ i, i < T.n → T.kid i ≠ [] → sm lo (T.kid i) ≤ lo i ∧ hi i ≤ sm hi (T.kid i) + T.loss i) :
  ∀ (d m : Nat), m + d = T.n → ∀ x : Nat → Int, (∀ i, i < T.n → lo i ≤ x i ∧ x i ≤ hi i) → (∀ i, i < m → T.eq x i) →
   ∃ y, Sol T lo hi y ∧ ∀ j, (∀ i, m ≤ i → j ∉ T.kid i) → y j = x j := by
 intro d
 induction d with
 | zero =>
  intro m hm x hx he
  exact ⟨x, ⟨hx, fun i hi => he i (by omega)⟩, fun _ _ => rfl⟩
 | succ d ih =>
  intro m hm x hx he
  have hmn : m < T.n := by omega
  have key : ∃ x', (∀ i, i < T.n → lo i ≤ x' i ∧ x' i ≤ hi i) ∧ (∀ i, i < m + 1 → T.eq x' i) ∧ ∀ j, j ∉ T.kid m → x' j = x j := by
   by_cases hk : T.kid m = []
   ·refine ⟨x, hx, fun i hi => ?_, fun _ _ => rfl⟩
    by_cases h : i < m
    ·exact he i h
    ·rw [show i = m by omega]; intro h'; exact absurd hk h'
   ·have h1 := hup m hmn hk
    have h2 := hx m hmn
    have hle : sm lo (T.kid m) ≤ sm hi (T.kid m) := sm_le (fun k hk' => hne k (hT.lt m k hk').2)
    have hl0 := hT.loss0 m hmn
    have hs : ∃ s, sm lo (T.kid m) ≤ s ∧ s ≤ sm hi (T.kid m) ∧ 0 ≤ x m - s ∧ x m - s ≤ T.loss m := by
     by_cases hc : x m ≤ sm hi (T.kid m)
     ·exact ⟨x m, by omega, by omega, by omega, by omega⟩
     ·exact ⟨sm hi (T.kid m), by omega, by omega, by omega, by omega⟩
    obtain ⟨s, hs1, hs2, hs3, hs4⟩ := hs
    obtain ⟨c, hc, hcs⟩ := fill lo hi (T.kid m) (hT.nodup m) (fun k hk' => hne k (hT.lt m k hk').2) s hs1 hs2
    refine ⟨fun j => if j ∈ T.kid m then c j else x j, ?_, ?_, ?_⟩
    ·intro i hi'
     by_cases h : i ∈ T.kid m
     ·simp only [h, if_true]; exact hc i h
     ·simp only [h, if_false]; exact hx i hi'
    ·intro i hi'
     by_cases h : i < m
     ·refine eq_congr (x := x) ?_ ?_ (he i h)
      ·have : i ∉ T.kid m := fun hm' => by have := (hT.lt m i hm').1; omega
       simp [this]
      ·intro k hk'
       have : k ∉ T.kid m := fun hm' => by have := hT.one i m k hk' hm'; omega
       simp [this]
     ·have e : i = m := by omega
      subst e
      intro _
      have h3 : i ∉ T.kid i := fun hm' => by have := (hT.lt i i hm').1; omega
      rw [sm_congr (g := c) (fun k hk' => by simp [hk'])]
      simp only [h3, if_false]
      rw [hcs]
      exact ⟨hs3, hs4⟩
    ·intro j hj
     simp [hj]
  obtain ⟨x', hx', he', hk'⟩ := key
  obtain ⟨y, hy, hyx⟩ := ih (m + 1) (by omega) x' hx' he'
  refine ⟨y, hy, fun j hj => ?_⟩
  rw [hyx j (fun i hi' => hj i (by omega)), hk' j (hj m (Nat.le_refl _))]
theorem exact (T : Net) (hT : T.Ok) (lo hi dl dh : Nat → Int) (hne : ∀ i, i < T.n → lo i ≤ hi i)
  (hup : ∀ i, i < T.n → T.kid i ≠ [] → sm lo (T.kid i) ≤ lo i ∧ hi i ≤ sm hi (T.kid i) + T.loss i)
  (hsub : ∀ i, i < T.n → lo i ≤ dl i ∧ dl i ≤ dh i ∧ dh i ≤ hi i)
  (hdn : ∀ i, i < T.n → ∀ k ∈ T.kid i, dl i - T.loss i - (sm hi (T.kid i) - hi k) ≤ dl k ∧ dh k ≤ dh i - (sm lo (T.kid i) - lo k)) :
  ∀ (k : Nat), k < T.n → ∀ v, dl k ≤ v → v ≤ dh k → ∃ x, Sol T lo hi x ∧ x k = v := by
 intro k
 induction k using Nat.strongRecOn with
 | ind k ih =>
  intro hk v hv1 hv2
  by_cases hp : ∃ i, i < T.n ∧ k ∈ T.kid i
  ·obtain ⟨i, hi', hki⟩ := hp
   have hik := (hT.lt i k hki).1
   have hne' : T.kid i ≠ [] := fun h => by rw [h] at hki; cases hki
   have h1 := hdn i hi' k hki
   have h2 := hsub i hi'
   have h3 := hup i hi' hne'
   have h4 := hsub k hk
   have hl0 := hT.loss0 i hi'
   obtain ⟨a, b, hab, hlo⟩ := sm_split lo hki
   have hhi : sm hi (T.kid i) = hi k + sm hi (a ++ b) := by rw [hab, sm_append, sm_append, sm_cons]; omega
   have hnd : (a ++ b).Nodup ∧ k ∉ a ++ b := by
    have := hT.nodup i
    rw [hab] at this
    rw [List.nodup_append] at this
    obtain ⟨ha, hb, hd⟩ := this
    rw [List.nodup_cons] at hb
    refine ⟨List.nodup_append.2 ⟨ha, hb.2, fun x hx y hy => hd x hx y (List.mem_cons_of_mem _ hy)⟩, fun h => ?_⟩
    rcases List.mem_append.1 h with h | h
    ·exact hd k h k (by simp) rfl
    ·exact hb.1 h
   have hmem : ∀ j ∈ a ++ b, j ∈ T.kid i := by
    intro j hj
    rw [hab]
    rcases List.mem_append.1 hj with h | h
    ·exact List.mem_append.2 (.inl h)
    ·exact List.mem_append.2 (.inr (List.mem_cons_of_mem _ h))
   have hle : sm lo (a ++ b) ≤ sm hi (a ++ b) := sm_le (fun j hj => hne j (hT.lt i j (hmem j hj)).2)
   have hw : ∃ w s, dl i ≤ w ∧ w ≤ dh i ∧ sm lo (a ++ b) ≤ s ∧ s ≤ sm hi (a ++ b) ∧ 0 ≤ w - (v + s) ∧ w - (v + s) ≤ T.loss i := by
    by_cases hc : dl i ≤ sm lo (a ++ b) + v
    ·exact ⟨sm lo (a ++ b) + v, sm lo (a ++ b), by omega, by omega, by omega, by omega, by omega, by omega⟩
    ·by_cases hc2 : dl i - v ≤ sm hi (a ++ b)
     ·exact ⟨dl i, dl i - v, by omega, by omega, by omega, by omega, by omega, by omega⟩
     ·exact ⟨dl i, sm hi (a ++ b), by omega, by omega, by omega, by omega, by omega, by omega⟩
   obtain ⟨w, s, hw1, hw2, hs1, hs2, hs3, hs4⟩ := hw
   obtain ⟨y, hy, hyi⟩ := ih i hik hi' w hw1 hw2
   obtain ⟨c, hc, hcs⟩ := fill lo hi (a ++ b) hnd.1 (fun j hj => hne j (hT.lt i j (hmem j hj)).2) s hs1 hs2
   let c' : Nat → Int := fun j => if j = k then v else c j
   have hc' : ∀ j ∈ T.kid i, lo j ≤ c' j ∧ c' j ≤ hi j := by
    intro j hj
    by_cases h : j = k
    ·subst h; simp only [c', if_true]; omega
    ·simp only [c', h, if_false]
     refine hc j ?_
     rw [hab] at hj
     rcases List.mem_append.1 hj with h' | h'
     ·exact List.mem_append.2 (.inl h')
     ·rcases List.mem_cons.1 h' with h' | h'
      ·exact absurd h' h
      ·exact List.mem_append.2 (.inr h')
   have hcs' : sm c' (T.kid i) = v + s := by
    have : sm c' (T.kid i) = c' k + sm c' (a ++ b) := by rw [hab, sm_append, sm_append, sm_cons]; omega
    rw [this, sm_congr (f := c') (g := c) (fun j hj => by have : j ≠ k := fun e => hnd.2 (e ▸ hj); simp [c', this]), hcs]
    simp [c']
   obtain ⟨z, hz, hzx⟩ := extend T hT lo hi hne hup (T.n - (i + 1)) (i + 1) (by omega) (fun j => if j ∈ T.kid i then c' j else y j)
    (fun j hj => by
     by_cases h : j ∈ T.kid i
     ·simp only [h, if_true]; exact hc' j h
     ·simp only [h, if_false]; exact hy.1 j hj)
    (fun j hj => by
     by_cases h : j < i
     ·refine eq_congr (x := y) ?_ ?_ (hy.2 j (by omega))
      ·have : j ∉ T.kid i := fun hm' => by have := (hT.lt i j hm').1; omega
       simp [this]
      ·intro q hq
       have : q ∉ T.kid i := fun hm' => by have := hT.one j i q hq hm'; omega
       simp [this]
     ·have e : j = i := by omega
      subst e
      intro _
      have h3 : j ∉ T.kid j := fun hm' => by have := (hT.lt j j hm').1; omega
      rw [sm_congr (g := c') (fun q hq => by simp [hq])]
      simp only [h3, if_false]
      rw [hcs', hyi]
      exact ⟨hs3, hs4⟩)
   refine ⟨z, hz, ?_⟩
   rw [hzx k (fun j hj hk' => by have := hT.one i j k hki hk'; omega)]
   simp [hki, c']
  ·have h4 := hsub k hk
   obtain ⟨z, hz, hzx⟩ := extend T hT lo hi hne hup T.n 0 (by omega) (fun j => if j = k then v else lo j)
    (fun j hj => by
     by_cases h : j = k
     ·subst h; simp only [if_true]; omega
     ·simp only [h, if_false]; exact ⟨Int.le_refl _, hne j hj⟩)
    (fun j hj => absurd hj (Nat.not_lt_zero _))
   refine ⟨z, hz, ?_⟩
   rw [hzx k (fun j _ hk' => hp ⟨j, by have := hT.lt j k hk'; omega, hk'⟩)]
   simp
end Go.Proofs.FlowTree
end
section
namespace Go.Proofs.Ytolmjhpapidmhaa.P
open Go.RowKit Go.Proofs.YtolmjhpapidmhaaW.PrintWords Go.Proofs.YtolmjhpapidmhaaW.PrintLast Go.Proofs.YtolmjhpapidmhaaW.PrintMore Go.Proofs.YtolmjhpapidmhaaH Go.Proofs.FlowTree
abbrev idP (l : List S44) (i : Nat) : Int := (rd_T44 l i).f0
abbrev abP (l : List S44) (i : Nat) : Int := (rd_T44 l i).f1
abbrev loP (l : List S44) (i : Nat) : Int := (rd_T44 l i).f2
def okP (l : List S44) (i : Nat) : Prop := 1 ≤ idP l i ∧ (0 < i → idP l (i - 1) < idP l i) ∧ (0 ≤ loP l i ∧ loP l i ≤ 1000000000) ∧ (abP l i ≠ 0 → ∃ j, j < i ∧ idP l j = abP l i)
def kidsAt (l : List S44) (m i : Nat) : List Nat := (List.range m).filter (fun k => decide (i < k) && decide (abP l k = idP l i))
def netT (l : List S44) : Net := { n := l.length, kid := kidsAt l l.length, loss := loP l }
theorem kidsAt_mem {l : List S44} {m i k : Nat} : k ∈ kidsAt l m i ↔ k < m ∧ i < k ∧ abP l k = idP l i := by
 simp [kidsAt]
theorem kidsAt_succ (l : List S44) (m i : Nat) : kidsAt l (m + 1) i = kidsAt l m i ++ (if i < m ∧ abP l m = idP l i then [m] else []) := by
 unfold kidsAt
 rw [List.range_succ, List.filter_append]
 congr 1
 by_cases h : i < m ∧ abP l m = idP l i
 ·rw [if_pos h, List.filter_cons_of_pos (by simp [h])]; rfl
 ·rw [if_neg h, List.filter_cons_of_neg (by simpa using h)]; rfl
theorem asc_of {l : List S44} {m : Nat} (h : ∀ i, i < m → okP l i) : ∀ d i j, j = i + d + 1 → j < m → idP l i < idP l j := by
 intro d
 induction d with
 | zero =>
  intro i j e hj
  have := (h j hj).2.1 (by omega)
  rwa [show j - 1 = i by omega] at this
 | succ d ih =>
  intro i j e hj
  have h1 := ih i (j - 1) (by omega) (by omega)
  have h2 := (h j hj).2.1 (by omega)
  omega
theorem asc {l : List S44} {m : Nat} (h : ∀ i, i < m → okP l i) {i j : Nat} (hij : i < j) (hj : j < m) : idP l i < idP l j := asc_of h (j - i - 1) i j (by omega) hj
theorem id_inj {l : List S44} {m : Nat} (h : ∀ i, i < m → okP l i) {i j : Nat} (hi : i < m) (hj : j < m) (e : idP l i = idP l j) : i = j := by
 rcases Nat.lt_trichotomy i j with h1 | h1 | h1
 ·have := asc h h1 hj; omega
 ·exact h1
 ·have := asc h h1 hi; omega
theorem isVol_iff (n : Int) : isVol n = true ↔ 0 ≤ n ∧ n ≤ 1000000000 := by simp [isVol]
structure OpenAt (l : List S44) (m : Nat) (kids : List (List Int)) (at_ : Int → Option Int) : Prop where
 len : kids.length = l.length
 kid : ∀ j, j < l.length → rdK kids j = (kidsAt l m j).map Int.ofNat
 has : ∀ id j, at_ id = some j → ∃ n : Nat, j = n ∧ n < m ∧ idP l n = id
 all : ∀ n, n < m → at_ (idP l n) = some (n : Int)
theorem rdK_set (kids : List (List Int)) (i j : Nat) (x : List Int) (hi : i < kids.length) : rdK (kids.set i x) j = if i = j then x else rdK kids j := by
 simp only [rdK, List.getD_eq_getElem?_getD, Int.toNat_natCast, List.getElem?_set]
 by_cases h : i = j
 ·subst h; simp [hi]
 ·simp [h]
theorem bad_iff (l : List S44) (m : Nat) (kids : List (List Int)) (at_ : Int → Option Int) (h : OpenAt l m kids at_) : badP l m (at_ (abP l m)).isSome = false ↔ okP l m := by
 have hasiff : (at_ (abP l m)).isSome = true ↔ ∃ j, j < m ∧ idP l j = abP l m := by
  constructor
  ·intro hs
   obtain ⟨j, hj⟩ := Option.isSome_iff_exists.1 hs
   obtain ⟨n, _, hn, e⟩ := h.has _ _ hj
   exact ⟨n, hn, e⟩
  ·rintro ⟨j, hj, e⟩
   rw [← e, h.all j hj]
   rfl
 have hm1 : (0 : Int) < (m : Int) → ((m : Int) - 1) = ((m - 1 : Nat) : Int) := by omega
 unfold badP okP
 simp only [idP, loP, abP] at *
 constructor
 ·intro hb
  simp only [Bool.or_eq_false_iff, Bool.and_eq_false_iff, decide_eq_false_iff_not, Bool.not_eq_false', isVol_iff, bne_eq_false_iff_eq, Bool.not_eq_false'] at hb
  obtain ⟨⟨⟨h1, h2⟩, h3⟩, h4⟩ := hb
  refine ⟨by omega, fun hm => ?_, h3, fun ha => ?_⟩
  ·rcases h2 with h2 | h2
   ·omega
   ·rw [hm1 (by omega)] at h2; omega
  ·rcases h4 with h4 | h4
   ·exact absurd h4 ha
   ·exact hasiff.1 h4
 ·rintro ⟨h1, h2, h3, h4⟩
  simp only [Bool.or_eq_false_iff, Bool.and_eq_false_iff, decide_eq_false_iff_not, Bool.not_eq_false', isVol_iff, bne_eq_false_iff_eq, Bool.not_eq_false']
  refine ⟨⟨⟨by omega, ?_⟩, h3⟩, ?_⟩
  ·by_cases hm : 0 < m
   ·refine .inr ?_
    rw [hm1 (by omega)]
    have := h2 hm
    omega
   ·exact .inl (by omega)
  ·by_cases ha : abP l m = 0
   ·exact .inl ha
   ·exact .inr (hasiff.2 (h4 ha))
theorem open_step (l : List S44) (m : Nat) (hm : m < l.length) (kids : List (List Int)) (at_ : Int → Option Int) (h : OpenAt l m kids at_) (hok : ∀ i, i < m + 1 → okP l i) :
  OpenAt l (m + 1) (addKid kids (at_ (abP l m)) m) (setI at_ (idP l m) m) := by
 refine ⟨(addKid_len _ _ _).trans h.len, fun j hj => ?_, fun id j hj => ?_, fun n hn => ?_⟩
 ·rw [kidsAt_succ, List.map_append]
  cases ha : at_ (abP l m) with
  | none =>
   have hno : ¬ (j < m ∧ abP l m = idP l j) := by
    rintro ⟨h1, h2⟩
    rw [h2, h.all j h1] at ha
    cases ha
   rw [if_neg hno]
   simp only [addKid, List.map_nil, List.append_nil]
   exact h.kid j hj
  | some a =>
   obtain ⟨n, rfl, hn, hid⟩ := h.has _ _ ha
   have hnl : n < kids.length := by rw [h.len]; omega
   simp only [addKid]
   rw [Int.toNat_natCast, rdK_set _ _ _ _ hnl]
   by_cases e : n = j
   ·subst e
    rw [if_pos rfl, if_pos ⟨hn, hid.symm⟩, h.kid n hj]
    rfl
   ·rw [if_neg e, if_neg (fun hh => e (id_inj hok (by omega) (by omega) (hid.trans hh.2))), h.kid j hj]
    simp
 ·unfold setI at hj
  split at hj
  ·rename_i e
   injection hj with hj
   exact ⟨m, hj.symm, by omega, e.symm⟩
  ·obtain ⟨n, e, hn, hid⟩ := h.has _ _ hj
   exact ⟨n, e, by omega, hid⟩
 ·unfold setI
  by_cases e : n = m
  ·subst e; rw [if_pos rfl]
  ·rw [if_neg (fun hh => e (id_inj hok (by omega) (by omega) hh)), h.all n (by omega)]
theorem openL_spec (l : List S44) : ∀ (k m : Nat) (kids : List (List Int)) (at_ : Int → Option Int), m + k = l.length → OpenAt l m kids at_ → (∀ i, i < m → okP l i) →
  (∀ r, openL l k kids at_ m = some r → (∀ i, i < l.length → okP l i) ∧ r.length = l.length ∧ ∀ j, j < l.length → rdK r j = (kidsAt l l.length j).map Int.ofNat) ∧ ((∀ i, i < l.length → okP l i) → ∃ r, openL l k kids at_ m = some r) := by
 intro k
 induction k with
 | zero =>
  intro m kids at_ hm h hok
  have e : m = l.length := by omega
  subst e
  refine ⟨fun r hr => ?_, fun _ => ⟨kids, rfl⟩⟩
  simp only [openL, Option.some.injEq] at hr
  subst hr
  exact ⟨hok, h.len, h.kid⟩
 | succ k ih =>
  intro m kids at_ hm h hok
  have hb := bad_iff l m kids at_ h
  simp only [openL]
  cases hbad : badP l m (at_ (abP l m)).isSome with
  | true =>
   have hno : ¬ okP l m := fun ho => by rw [hb.2 ho] at hbad; cases hbad
   rw [if_pos rfl]
   exact ⟨(fun r hr => by cases hr), fun ho => absurd (ho m (by omega)) hno⟩
  | false =>
   have hyes := hb.1 hbad
   rw [if_neg (by decide)]
   have hok' : ∀ i, i < m + 1 → okP l i := fun i hi => by
    by_cases h' : i < m
    ·exact hok i h'
    ·rw [show i = m by omega]; exact hyes
   have := ih (m + 1) (addKid kids (at_ (abP l m)) m) (setI at_ (idP l m) m) (by omega) (open_step l m (by omega) kids at_ h hok') hok'
   rw [show ((m + 1 : Nat) : Int) = (m : Int) + 1 from by omega] at this
   exact this
theorem openAt0 (l : List S44) : OpenAt l 0 (List.replicate l.length []) (fun _ => none) := by
 refine ⟨by simp, fun j hj => ?_, (fun id j hj => by cases hj), fun n hn => absurd hn (Nat.not_lt_zero _)⟩
 simp [rdK, kidsAt, List.getD_eq_getElem?_getD, hj]
def okL (l : List S44) : Prop := ∀ i, i < l.length → okP l i
theorem openK_some {l : List S44} {kids : List (List Int)} (h : openK l = some kids) : okL l ∧ ∀ j, j < l.length → rdK kids j = (kidsAt l l.length j).map Int.ofNat := by
 have := (openL_spec l l.length 0 _ _ (by omega) (openAt0 l) (fun i hi => absurd hi (Nat.not_lt_zero _))).1 kids h
 exact ⟨this.1, this.2.2⟩
theorem openK_of {l : List S44} (h : okL l) : ∃ kids, openK l = some kids :=
 (openL_spec l l.length 0 _ _ (by omega) (openAt0 l) (fun i hi => absurd hi (Nat.not_lt_zero _))).2 h
theorem netT_ok {l : List S44} (h : okL l) : (netT l).Ok := by
 refine ⟨fun i k hk => ?_, fun i => ?_, fun i j k hi hj => ?_, fun i hi => (h i hi).2.2.1.1⟩
 ·have := kidsAt_mem.1 hk; exact ⟨this.2.1, this.1⟩
 ·exact List.Nodup.sublist List.filter_sublist List.nodup_range
 ·have h1 := kidsAt_mem.1 hi
  have h2 := kidsAt_mem.1 hj
  exact id_inj h (show i < l.length by omega) (show j < l.length by omega) (h1.2.2.symm.trans h2.2.2)
end Go.Proofs.Ytolmjhpapidmhaa.P
end
section
namespace Go.Proofs.Ytolmjhpapidmhaa.P
open Go.RowKit Go.Proofs.YtolmjhpapidmhaaW.PrintWords Go.Proofs.YtolmjhpapidmhaaW.PrintLast Go.Proofs.YtolmjhpapidmhaaW.PrintMore Go.Proofs.YtolmjhpapidmhaaH Go.Proofs.FlowTree
abbrev IV := S74
abbrev PI := S44
abbrev rv (r : List IV) (i : Nat) : IV := rd_T74 r i
def Lo (r : List IV) (i : Nat) : Int := (rv r i).f0
def Hi (r : List IV) (i : Nat) : Int := (rv r i).f1
def Vol (n : Nat) (lo hi : Nat → Int) : Prop := ∀ i, i < n → 0 ≤ lo i ∧ lo i ≤ hi i ∧ hi i ≤ 1000000000
theorem rv_set (r : List IV) (i j : Nat) (y : IV) (hi : i < r.length) : rv (r.set i y) j = if i = j then y else rv r j := by
 simp only [rv, rd_T74, List.getD_eq_getElem?_getD, Int.toNat_natCast, List.getElem?_set]
 by_cases h : i = j
 ·subst h; simp [hi]
 ·simp [h]
theorem wrap_id {n : Int} (h1 : -9223372036854775808 ≤ n) (h2 : n ≤ 9223372036854775807) : wrap64 n = n := by unfold wrap64; omega
theorem total_fold (φ : IV → Int) (xs : List IV) : ∀ s : Int, 0 ≤ s → s + 1000000000 * xs.length ≤ 1000000000000 → (∀ x ∈ xs, 0 ≤ φ x ∧ φ x ≤ 1000000000) → xs.foldl (fun s x => wrap64 (s + φ x)) s = (xs.map φ).foldl (· + ·) s := by
 induction xs with
 | nil => intro s _ _ _; rfl
 | cons x xs ih =>
  intro s h0 h1 h
  have hx := h x (by simp)
  simp only [List.length_cons, Int.natCast_add, Int.natCast_one, Int.mul_add, Int.mul_one] at h1
  have hl : (0 : Int) ≤ 1000000000 * xs.length := by omega
  rw [List.foldl_cons, List.map_cons, List.foldl_cons, wrap_id (by omega) (by omega)]
  exact ih (s + φ x) (by omega) (by omega) (fun y hy => h y (List.mem_cons_of_mem _ hy))
theorem total_eq (φ : IV → Int) (r : List IV) (ks : List Nat) (hl : ks.length ≤ 200) (h : ∀ k ∈ ks, 0 ≤ φ (rv r k) ∧ φ (rv r k) ≤ 1000000000) : totalF φ (ks.map (fun k => rv r k)) = sm (fun k => φ (rv r k)) ks := by
 unfold totalF sm
 rw [total_fold φ _ 0 (Int.le_refl _) (by rw [List.length_map]; omega) (by
  intro x hx
  obtain ⟨k, hk, rfl⟩ := List.mem_map.1 hx
  exact h k hk), List.map_map]
 rfl
theorem kids_len (l : List PI) (i : Nat) : (kidsAt l l.length i).length ≤ l.length := by
 unfold kidsAt
 exact Nat.le_trans (List.length_filter_le _ _) (by simp)
section
variable {l : List PI} {kids : List (List Int)}
theorem below_eq (hk : ∀ j, j < l.length → rdK kids j = (kidsAt l l.length j).map Int.ofNat) (r : List IV) (i : Nat) (hi : i < l.length) : belowI kids r i = (kidsAt l l.length i).map (fun k => rv r k) := by
 unfold belowI
 rw [hk i hi, List.map_map]
 rfl
theorem cutI_f0 (x : IV) (a b : Int) : (cutI x a b).f0 = max x.f0 a := by simp only [cutI, mx]; split <;> omega
theorem cutI_f1 (x : IV) (a b : Int) : (cutI x a b).f1 = min x.f1 b := by simp only [cutI, mn]; split <;> omega
structure UpAt (l : List PI) (r : List IV) (m : Nat) (u : List IV) : Prop where
 len : u.length = l.length
 old : ∀ j, j < m → rv u j = rv r j
 now : (∃ j, m ≤ j ∧ j < l.length ∧ Hi u j < Lo u j) ∧ (¬ ∃ x, Sol (netT l) (Lo r) (Hi r) x) ∨
  (∀ j, m ≤ j → j < l.length → (0 ≤ Lo u j ∧ Lo u j ≤ Hi u j ∧ Hi u j ≤ 1000000000 ∧ Lo r j ≤ Lo u j ∧ Hi u j ≤ Hi r j) ∧ (kidsAt l l.length j ≠ [] → sm (Lo u) (kidsAt l l.length j) ≤ Lo u j ∧ Hi u j ≤ sm (Hi u) (kidsAt l l.length j) + loP l j)) ∧
  (∀ x, Sol (netT l) (Lo r) (Hi r) x → ∀ j, m ≤ j → j < l.length → Lo u j ≤ x j ∧ x j ≤ Hi u j)
theorem up_step (hok : okL l) (hn : l.length ≤ 200) (hk : ∀ j, j < l.length → rdK kids j = (kidsAt l l.length j).map Int.ofNat) {r u : List IV} (hv : Vol l.length (Lo r) (Hi r)) {i : Nat} (hi : i < l.length) (h : UpAt l r (i + 1) u) :
  UpAt l r i (upStep l kids u i) := by
 have hil : i < u.length := by rw [h.len]; exact hi
 have hlo : (rd_T44 l i).f2 = loP l i := rfl
 unfold upStep
 rw [below_eq hk u i hi, List.length_map, hlo]
 by_cases hne : kidsAt l l.length i = []
 ·rw [hne]
  simp only [List.length_nil, Nat.lt_irrefl, if_false]
  refine ⟨h.len, fun j hj => h.old j (by omega), ?_⟩
  have e : rv u i = rv r i := h.old i (by omega)
  rcases h.now with ⟨⟨j, h1, h2, h3⟩, hs⟩ | ⟨ha, hs⟩
  ·exact .inl ⟨⟨j, by omega, h2, h3⟩, hs⟩
  ·refine .inr ⟨fun j h1 h2 => ?_, fun x hx j h1 h2 => ?_⟩
   ·by_cases hj : i + 1 ≤ j
    ·exact ha j hj h2
    ·have e2 : j = i := by omega
     subst e2
     have h4 := hv j h2
     refine ⟨?_, fun hc => absurd hne hc⟩
     simp only [Lo, Hi, e] at *
     omega
   ·by_cases hj : i + 1 ≤ j
    ·exact hs x hx j hj h2
    ·have e2 : j = i := by omega
     subst e2
     have h4 := hx.1 j h2
     simp only [Lo, Hi, e] at *
     exact h4
 ·have hpos : 0 < (kidsAt l l.length i).length := List.length_pos_iff.2 hne
  rw [if_pos hpos, Int.toNat_natCast]
  have hset : ∀ y j, rv (u.set i y) j = if i = j then y else rv u j := fun y j => rv_set u i j y hil
  have hkid : ∀ k ∈ kidsAt l l.length i, i + 1 ≤ k ∧ k < l.length := fun k hk' => by have := kidsAt_mem.1 hk'; exact ⟨by omega, by omega⟩
  rcases h.now with ⟨⟨j, h1, h2, h3⟩, hs⟩ | ⟨ha, hs⟩
  ·refine ⟨by rw [List.length_set]; exact h.len, fun j hj => by rw [hset, if_neg (by omega)]; exact h.old j (by omega), .inl ⟨⟨j, by omega, h2, ?_⟩, hs⟩⟩
   simp only [Lo, Hi, hset, if_neg (show ¬ i = j by omega)] at *
   exact h3
  ·have hL : totalF S74.f0 ((kidsAt l l.length i).map (fun k => rv u k)) = sm (Lo u) (kidsAt l l.length i) := by
    rw [total_eq _ _ _ (Nat.le_trans (kids_len l i) hn) (fun k hk' => by have := (ha k (hkid k hk').1 (hkid k hk').2).1; simp only [Lo, Hi] at this; omega)]
    rfl
   have hH : totalF S74.f1 ((kidsAt l l.length i).map (fun k => rv u k)) = sm (Hi u) (kidsAt l l.length i) := by
    rw [total_eq _ _ _ (Nat.le_trans (kids_len l i) hn) (fun k hk' => by have := (ha k (hkid k hk').1 (hkid k hk').2).1; simp only [Lo, Hi] at this; omega)]
    rfl
   have bH := sm_bound (f := Hi u) (ks := kidsAt l l.length i) (a := 0) (b := 1000000000) (fun k hk' => by have := (ha k (hkid k hk').1 (hkid k hk').2).1; omega)
   have bL := sm_bound (f := Lo u) (ks := kidsAt l l.length i) (a := 0) (b := 1000000000) (fun k hk' => by have := (ha k (hkid k hk').1 (hkid k hk').2).1; omega)
   have bl := kids_len l i
   have bo := (hok i hi).2.2.1
   rw [hL, hH, wrap_id (by omega) (by omega)]
   obtain ⟨y, hy⟩ : ∃ y, y = cutI (rd_T74 u i) (sm (Lo u) (kidsAt l l.length i)) (sm (Hi u) (kidsAt l l.length i) + loP l i) := ⟨_, rfl⟩
   rw [← hy]
   have hy0 : y.f0 = max (Lo u i) (sm (Lo u) (kidsAt l l.length i)) := by rw [hy, cutI_f0]; rfl
   have hy1 : y.f1 = min (Hi u i) (sm (Hi u) (kidsAt l l.length i) + loP l i) := by rw [hy, cutI_f1]; rfl
   have er : rv u i = rv r i := h.old i (by omega)
   have hri := hv i hi
   have hrl : Lo u i = Lo r i := by simp only [Lo, er]
   have hrh : Hi u i = Hi r i := by simp only [Hi, er]
   have hsol : ∀ x, Sol (netT l) (Lo r) (Hi r) x → y.f0 ≤ x i ∧ x i ≤ y.f1 := by
    intro x hx
    have h1 := hx.1 i hi
    have h2 := hx.2 i hi hne
    have h3 : sm (Lo u) (kidsAt l l.length i) ≤ sm x (kidsAt l l.length i) := sm_le (fun k hk' => (hs x hx k (hkid k hk').1 (hkid k hk').2).1)
    have h4 : sm x (kidsAt l l.length i) ≤ sm (Hi u) (kidsAt l l.length i) := sm_le (fun k hk' => (hs x hx k (hkid k hk').1 (hkid k hk').2).2)
    simp only [netT] at h2
    omega
   have old' : ∀ j, j < i → rv (u.set i y) j = rv r j := fun j hj => by rw [hset, if_neg (by omega)]; exact h.old j (by omega)
   have hne' : ∀ j, i ≠ j → Lo (u.set i y) j = Lo u j ∧ Hi (u.set i y) j = Hi u j := fun j hj => ⟨by simp only [Lo, hset, if_neg hj], by simp only [Hi, hset, if_neg hj]⟩
   have hi0 : Lo (u.set i y) i = y.f0 ∧ Hi (u.set i y) i = y.f1 := ⟨by simp only [Lo, hset, if_true], by simp only [Hi, hset, if_true]⟩
   have hkn : ∀ j, i ≤ j → ∀ k ∈ kidsAt l l.length j, i ≠ k := fun j hj k hk' => by have := kidsAt_mem.1 hk'; omega
   refine ⟨by rw [List.length_set]; exact h.len, old', ?_⟩
   by_cases hem : y.f0 ≤ y.f1
   ·refine .inr ⟨fun j h1 h2 => ?_, fun x hx j h1 h2 => ?_⟩
    ·have hsL : sm (Lo (u.set i y)) (kidsAt l l.length j) = sm (Lo u) (kidsAt l l.length j) := sm_congr (fun k hk' => (hne' k (hkn j h1 k hk')).1)
     have hsH : sm (Hi (u.set i y)) (kidsAt l l.length j) = sm (Hi u) (kidsAt l l.length j) := sm_congr (fun k hk' => (hne' k (hkn j h1 k hk')).2)
     rw [hsL, hsH]
     by_cases hj : i + 1 ≤ j
     ·rw [(hne' j (by omega)).1, (hne' j (by omega)).2]
      exact ha j hj h2
     ·have e2 : j = i := by omega
      subst e2
      rw [hi0.1, hi0.2]
      exact ⟨by omega, fun _ => by omega⟩
    ·by_cases hj : i + 1 ≤ j
     ·rw [(hne' j (by omega)).1, (hne' j (by omega)).2]
      exact hs x hx j hj h2
     ·have e2 : j = i := by omega
      subst e2
      rw [hi0.1, hi0.2]
      exact hsol x hx
   ·refine .inl ⟨⟨i, Nat.le_refl _, hi, by rw [hi0.1, hi0.2]; omega⟩, fun ⟨x, hx⟩ => ?_⟩
    have := hsol x hx
    omega
theorem up_fold (hok : okL l) (hn : l.length ≤ 200) (hk : ∀ j, j < l.length → rdK kids j = (kidsAt l l.length j).map Int.ofNat) {r : List IV} (hl : r.length = l.length) (hv : Vol l.length (Lo r) (Hi r)) :
  ∀ d, d ≤ l.length → UpAt l r (l.length - d) ((downTo l.length d).foldl (fun r (j : Nat) => upStep l kids r j) r) := by
 intro d
 induction d with
 | zero => intro _; exact ⟨hl, fun _ _ => rfl, .inr ⟨fun j h1 h2 => by omega, fun x _ j h1 h2 => by omega⟩⟩
 | succ d ih =>
  intro hd
  rw [downTo_succ, List.foldl_append]
  have h := ih (by omega)
  have e : l.length - d = (l.length - 1 - d) + 1 := by omega
  rw [e] at h
  have := up_step hok hn hk hv (i := l.length - 1 - d) (by omega) h
  rw [show l.length - (d + 1) = l.length - 1 - d by omega]
  exact this
theorem up_spec (hok : okL l) (hn : l.length ≤ 200) (hk : ∀ j, j < l.length → rdK kids j = (kidsAt l l.length j).map Int.ofNat) {r : List IV} (hl : r.length = l.length) (hv : Vol l.length (Lo r) (Hi r)) : UpAt l r 0 (upF l kids r) := by
 have := up_fold hok hn hk hl hv l.length (Nat.le_refl _)
 rw [Nat.sub_self] at this
 exact this
end
end Go.Proofs.Ytolmjhpapidmhaa.P
end
section
namespace Go.Proofs.Ytolmjhpapidmhaa.P
open Go.RowKit Go.Proofs.YtolmjhpapidmhaaW.PrintWords Go.Proofs.YtolmjhpapidmhaaW.PrintLast Go.Proofs.YtolmjhpapidmhaaW.PrintMore Go.Proofs.YtolmjhpapidmhaaH Go.Proofs.FlowTree
section
variable {l : List PI} {kids : List (List Int)}
theorem cuts (i : Nat) (lo hi : Int) (d : List IV) : ∀ (ks : List Nat) (e : List IV), ks.Nodup → i ∉ ks → (∀ k ∈ ks, k < e.length) → (∀ k ∈ ks, rv e k = rv d k) → rv e i = rv d i →
  (∀ j, j ∉ ks → rv ((ks.map Int.ofNat).foldl (downCut l i lo hi) e) j = rv e j) ∧
  (∀ k ∈ ks, rv ((ks.map Int.ofNat).foldl (downCut l i lo hi) e) k = cutI (rv d k) (wrap64 (wrap64 ((rv d i).f0 - loP l i) - wrap64 (hi - (rv d k).f1))) (wrap64 ((rv d i).f1 - wrap64 (lo - (rv d k).f0)))) := by
 intro ks
 induction ks with
 | nil => intro e _ _ _ _ _; exact ⟨fun _ _ => rfl, (fun k hk => by cases hk)⟩
 | cons k ks ih =>
  intro e hnd hi' hlen heq hei
  rw [List.nodup_cons] at hnd
  have hk : k < e.length := hlen k (by simp)
  have hset : ∀ y j, rv (e.set k y) j = if k = j then y else rv e j := fun y j => rv_set e k j y hk
  have hik : ¬ k = i := fun h => hi' (by simp [h])
  rw [List.map_cons, List.foldl_cons]
  obtain ⟨y, hy⟩ : ∃ y, y = cutI (rv d k) (wrap64 (wrap64 ((rv d i).f0 - loP l i) - wrap64 (hi - (rv d k).f1))) (wrap64 ((rv d i).f1 - wrap64 (lo - (rv d k).f0))) := ⟨_, rfl⟩
  have hstep : downCut l i lo hi e (Int.ofNat k) = e.set k y := by
   unfold downCut
   have e1 : rd_T74 e (Int.ofNat k) = rv d k := heq k (by simp)
   have e2 : rd_T74 e (i : Int) = rv d i := hei
   rw [e1, e2, hy]
   rfl
  rw [hstep]
  have h := ih (e.set k y) hnd.2 (fun h => hi' (List.mem_cons_of_mem _ h)) (fun j hj => by rw [List.length_set]; exact hlen j (List.mem_cons_of_mem _ hj))
   (fun j hj => by rw [hset, if_neg (fun hh : k = j => hnd.1 (by rw [hh]; exact hj))]; exact heq j (List.mem_cons_of_mem _ hj)) (by rw [hset, if_neg hik]; exact hei)
  refine ⟨fun j hj => ?_, fun j hj => ?_⟩
  ·rw [h.1 j (fun hh => hj (List.mem_cons_of_mem _ hh)), hset, if_neg (fun hh => hj (by simp [hh]))]
  ·rcases List.mem_cons.1 hj with rfl | hj'
   ·rw [h.1 j hnd.1, hset, if_pos rfl, hy]
   ·exact h.2 j hj'
structure DownAt (l : List PI) (r u : List IV) (m : Nat) (d : List IV) : Prop where
 len : d.length = l.length
 old : ∀ j, (∀ p, p < m → j ∉ kidsAt l l.length p) → rv d j = rv u j
 rng : ∀ j, j < l.length → Lo u j ≤ Lo d j ∧ Lo d j ≤ Hi d j ∧ Hi d j ≤ Hi u j
 cut : ∀ p, p < m → ∀ k ∈ kidsAt l l.length p, Lo d p - loP l p - (sm (Hi u) (kidsAt l l.length p) - Hi u k) ≤ Lo d k ∧ Hi d k ≤ Hi d p - (sm (Lo u) (kidsAt l l.length p) - Lo u k)
 sol : ∀ x, Sol (netT l) (Lo r) (Hi r) x → ∀ j, j < l.length → Lo d j ≤ x j ∧ x j ≤ Hi d j
structure UpOk (l : List PI) (r u : List IV) : Prop where
 len : u.length = l.length
 rng : ∀ j, j < l.length → 0 ≤ Lo u j ∧ Lo u j ≤ Hi u j ∧ Hi u j ≤ 1000000000 ∧ Lo r j ≤ Lo u j ∧ Hi u j ≤ Hi r j
 eq : ∀ j, j < l.length → kidsAt l l.length j ≠ [] → sm (Lo u) (kidsAt l l.length j) ≤ Lo u j ∧ Hi u j ≤ sm (Hi u) (kidsAt l l.length j) + loP l j
 sol : ∀ x, Sol (netT l) (Lo r) (Hi r) x → ∀ j, j < l.length → Lo u j ≤ x j ∧ x j ≤ Hi u j
theorem down_step (hok : okL l) (hn : l.length ≤ 200) (hk : ∀ j, j < l.length → rdK kids j = (kidsAt l l.length j).map Int.ofNat) {r u d : List IV} (hu : UpOk l r u) {i : Nat} (hi : i < l.length) (h : DownAt l r u i d) :
  DownAt l r u (i + 1) (downStep l kids d i) := by
 have hT := netT_ok hok
 have hkid : ∀ k ∈ kidsAt l l.length i, i < k ∧ k < l.length := fun k hk' => hT.lt i k hk'
 have hold : ∀ k ∈ kidsAt l l.length i, rv d k = rv u k := fun k hk' => h.old k (fun p hp hm => by have := hT.one i p k hk' hm; omega)
 have hLk : ∀ k ∈ kidsAt l l.length i, Lo d k = Lo u k := fun k hk' => by simp only [Lo, hold k hk']
 have hHk : ∀ k ∈ kidsAt l l.length i, Hi d k = Hi u k := fun k hk' => by simp only [Hi, hold k hk']
 have hL : totalF S74.f0 ((kidsAt l l.length i).map (fun k => rv d k)) = sm (Lo u) (kidsAt l l.length i) := by
  rw [total_eq _ _ _ (Nat.le_trans (kids_len l i) hn) (fun k hk' => by have h1 := hu.rng k (hkid k hk').2; have h2 := hold k hk'; simp only [Lo, Hi, h2] at *; omega)]
  exact sm_congr hLk
 have hH : totalF S74.f1 ((kidsAt l l.length i).map (fun k => rv d k)) = sm (Hi u) (kidsAt l l.length i) := by
  rw [total_eq _ _ _ (Nat.le_trans (kids_len l i) hn) (fun k hk' => by have h1 := hu.rng k (hkid k hk').2; have h2 := hold k hk'; simp only [Lo, Hi, h2] at *; omega)]
  exact sm_congr hHk
 have bH := sm_bound (f := Hi u) (ks := kidsAt l l.length i) (a := 0) (b := 1000000000) (fun k hk' => by have := hu.rng k (hkid k hk').2; omega)
 have bL := sm_bound (f := Lo u) (ks := kidsAt l l.length i) (a := 0) (b := 1000000000) (fun k hk' => by have := hu.rng k (hkid k hk').2; omega)
 have bl := kids_len l i
 have bo := (hok i hi).2.2.1
 have hinot : i ∉ kidsAt l l.length i := fun hm => by have := hkid i hm; omega
 have hun : downStep l kids d i = ((kidsAt l l.length i).map Int.ofNat).foldl (downCut l i (sm (Lo u) (kidsAt l l.length i)) (sm (Hi u) (kidsAt l l.length i))) d := by
  unfold downStep
  rw [below_eq hk d i hi, hL, hH, hk i hi]
 have hc := cuts (l := l) i (sm (Lo u) (kidsAt l l.length i)) (sm (Hi u) (kidsAt l l.length i)) d (kidsAt l l.length i) d (hT.nodup i) hinot (fun k hk' => by rw [h.len]; exact (hkid k hk').2) (fun _ _ => rfl) rfl
 rw [← hun] at hc
 obtain ⟨e, he⟩ : ∃ e, e = downStep l kids d i := ⟨_, rfl⟩
 rw [← he] at hc ⊢
 have elen : e.length = l.length := by rw [he, downStep_len, h.len]
 have hri := h.rng i hi
 have hui := hu.rng i hi
 have hnew : ∀ k ∈ kidsAt l l.length i, Lo e k = max (Lo u k) (Lo d i - loP l i - (sm (Hi u) (kidsAt l l.length i) - Hi u k)) ∧ Hi e k = min (Hi u k) (Hi d i - (sm (Lo u) (kidsAt l l.length i) - Lo u k)) ∧ Lo e k ≤ Hi e k := by
  intro k hk'
  have h1 := hc.2 k hk'
  have h2 := hu.rng k (hkid k hk').2
  have h3 := hu.eq i hi (fun hh => by rw [hh] at hk'; cases hk')
  obtain ⟨a, b, hab, hlo⟩ := sm_split (Lo u) hk'
  have hhi : sm (Hi u) (kidsAt l l.length i) = Hi u k + sm (Hi u) (a ++ b) := by rw [hab, sm_append, sm_append, sm_cons]; omega
  have hle : sm (Lo u) (a ++ b) ≤ sm (Hi u) (a ++ b) := sm_le (fun j hj => by
   have hj' : j ∈ kidsAt l l.length i := by
    rw [hab]
    rcases List.mem_append.1 hj with h' | h'
    ·exact List.mem_append.2 (.inl h')
    ·exact List.mem_append.2 (.inr (List.mem_cons_of_mem _ h'))
   have := hu.rng j (hkid j hj').2
   omega)
  have e0 : Lo e k = max (Lo u k) (Lo d i - loP l i - (sm (Hi u) (kidsAt l l.length i) - Hi u k)) := by
   have := congrArg S74.f0 h1
   rw [cutI_f0] at this
   have w1 : (rv d k).f1 = Hi u k := hHk k hk'
   have w2 : (rv d k).f0 = Lo u k := hLk k hk'
   have w3 : (rv d i).f0 = Lo d i := rfl
   rw [w1, w2, w3, wrap_id (n := Lo d i - loP l i) (by omega) (by omega), wrap_id (n := sm (Hi u) (kidsAt l l.length i) - Hi u k) (by omega) (by omega), wrap_id (by omega) (by omega)] at this
   exact this
  have e1 : Hi e k = min (Hi u k) (Hi d i - (sm (Lo u) (kidsAt l l.length i) - Lo u k)) := by
   have := congrArg S74.f1 h1
   rw [cutI_f1] at this
   have w1 : (rv d k).f1 = Hi u k := hHk k hk'
   have w2 : (rv d k).f0 = Lo u k := hLk k hk'
   have w3 : (rv d i).f1 = Hi d i := rfl
   rw [w1, w2, w3, wrap_id (n := sm (Lo u) (kidsAt l l.length i) - Lo u k) (by omega) (by omega), wrap_id (by omega) (by omega)] at this
   exact this
  refine ⟨e0, e1, ?_⟩
  omega
 have hsame : ∀ j, j ∉ kidsAt l l.length i → Lo e j = Lo d j ∧ Hi e j = Hi d j := fun j hj => by
  have := hc.1 j hj
  exact ⟨by simp only [Lo, this], by simp only [Hi, this]⟩
 refine ⟨elen, fun j hj => ?_, fun j hj => ?_, fun p hp k hk' => ?_, fun x hx j hj => ?_⟩
 ·rw [hc.1 j (hj i (by omega))]
  exact h.old j (fun p hp => hj p (by omega))
 ·by_cases hm : j ∈ kidsAt l l.length i
  ·have := hnew j hm
   omega
  ·have := hsame j hm
   have := h.rng j hj
   omega
 ·have hpi : p ∉ kidsAt l l.length i := fun hm => by have := (hkid p hm).1; omega
  have hp' := hsame p hpi
  by_cases h' : p < i
  ·have hki : k ∉ kidsAt l l.length i := fun hm => by have := hT.one i p k hm hk'; omega
   have := hsame k hki
   have := h.cut p h' k hk'
   omega
  ·have e2 : p = i := by omega
   subst e2
   have := hnew k hk'
   omega
 ·by_cases hm : j ∈ kidsAt l l.length i
  ·have h1 := hnew j hm
   have h2 := h.sol x hx i hi
   have h3 := hu.sol x hx j hj
   have hne : kidsAt l l.length i ≠ [] := fun hh => by rw [hh] at hm; cases hm
   have h4 := hx.2 i hi hne
   simp only [netT] at h4
   obtain ⟨a, b, hab, hlo⟩ := sm_split (Lo u) hm
   have hhi : sm (Hi u) (kidsAt l l.length i) = Hi u j + sm (Hi u) (a ++ b) := by rw [hab, sm_append, sm_append, sm_cons]; omega
   have hxx : sm x (kidsAt l l.length i) = x j + sm x (a ++ b) := by rw [hab, sm_append, sm_append, sm_cons]; omega
   have hmem : ∀ q ∈ a ++ b, q < l.length := fun q hq => (hkid q (by
    rw [hab]
    rcases List.mem_append.1 hq with h' | h'
    ·exact List.mem_append.2 (.inl h')
    ·exact List.mem_append.2 (.inr (List.mem_cons_of_mem _ h')))).2
   have l1 : sm (Lo u) (a ++ b) ≤ sm x (a ++ b) := sm_le (fun q hq => (hu.sol x hx q (hmem q hq)).1)
   have l2 : sm x (a ++ b) ≤ sm (Hi u) (a ++ b) := sm_le (fun q hq => (hu.sol x hx q (hmem q hq)).2)
   omega
  ·have := hsame j hm
   have := h.sol x hx j hj
   omega
theorem down_fold (hok : okL l) (hn : l.length ≤ 200) (hk : ∀ j, j < l.length → rdK kids j = (kidsAt l l.length j).map Int.ofNat) {r u : List IV} (hu : UpOk l r u) :
  ∀ m, m ≤ l.length → DownAt l r u m ((List.range m).foldl (fun r (j : Nat) => downStep l kids r j) u) := by
 intro m
 induction m with
 | zero => intro _; exact ⟨hu.len, fun _ _ => rfl, fun j hj => by have := hu.rng j hj; simp only [List.range_zero, List.foldl_nil]; omega, fun p hp => absurd hp (Nat.not_lt_zero _), hu.sol⟩
 | succ m ih =>
  intro hm
  rw [foldl_range_succ]
  exact down_step hok hn hk hu (by omega) (ih (by omega))
structure Exact (l : List PI) (lo hi : Nat → Int) (d : List IV) : Prop where
 len : d.length = l.length
 rng : ∀ j, j < l.length → 0 ≤ Lo d j ∧ Lo d j ≤ Hi d j ∧ Hi d j ≤ 1000000000 ∧ lo j ≤ Lo d j ∧ Hi d j ≤ hi j
 sol : ∀ x, Sol (netT l) lo hi x → ∀ j, j < l.length → Lo d j ≤ x j ∧ x j ≤ Hi d j
 had : ∀ j, j < l.length → ∀ v, Lo d j ≤ v → v ≤ Hi d j → ∃ x, Sol (netT l) lo hi x ∧ x j = v
theorem any_empty (u : List IV) : u.any emptyI = true ↔ ∃ j, j < u.length ∧ Hi u j < Lo u j := by
 rw [List.any_eq_true]
 constructor
 ·rintro ⟨x, hx, he⟩
  obtain ⟨j, hj, rfl⟩ := List.mem_iff_getElem.1 hx
  refine ⟨j, hj, ?_⟩
  simp only [emptyI, decide_eq_true_eq] at he
  simp only [Lo, Hi, rv, rd_T74, Int.toNat_natCast, List.getD_eq_getElem?_getD, List.getElem?_eq_getElem hj, Option.getD_some]
  omega
 ·rintro ⟨j, hj, h⟩
  refine ⟨u[j], List.getElem_mem hj, ?_⟩
  simp only [Lo, Hi, rv, rd_T74, Int.toNat_natCast, List.getD_eq_getElem?_getD, List.getElem?_eq_getElem hj, Option.getD_some] at h
  simp only [emptyI, decide_eq_true_eq]
  omega
theorem boundsF_spec (hok : okL l) (hn : l.length ≤ 200) (hk : ∀ j, j < l.length → rdK kids j = (kidsAt l l.length j).map Int.ofNat) {r : List IV} (hl : r.length = l.length) (hv : Vol l.length (Lo r) (Hi r)) :
  ((boundsF l kids r).1 = false ∧ ¬ ∃ x, Sol (netT l) (Lo r) (Hi r) x) ∨ ((boundsF l kids r).1 = true ∧ Exact l (Lo r) (Hi r) (boundsF l kids r).2) := by
 have h := up_spec hok hn hk hl hv
 unfold boundsF
 rcases h.now with ⟨⟨j, h1, h2, h3⟩, hs⟩ | ⟨ha, hs⟩
 ·rw [if_pos ((any_empty _).2 ⟨j, by rw [h.len]; exact h2, h3⟩)]
  exact .inl ⟨rfl, hs⟩
 ·have hno : ¬ (upF l kids r).any emptyI = true := fun hh => by
   obtain ⟨j, hj, h3⟩ := (any_empty _).1 hh
   rw [h.len] at hj
   have := (ha j (Nat.zero_le _) hj).1
   omega
  rw [if_neg hno]
  have hu : UpOk l r (upF l kids r) := ⟨h.len, fun j hj => (ha j (Nat.zero_le _) hj).1, fun j hj => (ha j (Nat.zero_le _) hj).2, fun x hx j hj => hs x hx j (Nat.zero_le _) hj⟩
  have hd := down_fold hok hn hk hu l.length (Nat.le_refl _)
  have hd' : DownAt l r (upF l kids r) l.length (downF l kids (upF l kids r)) := hd
  have hno2 : ¬ (downF l kids (upF l kids r)).any emptyI = true := fun hh => by
   obtain ⟨j, hj, h3⟩ := (any_empty _).1 hh
   rw [hd'.len] at hj
   have := hd'.rng j hj
   omega
  rw [if_neg hno2]
  refine .inr ⟨rfl, hd'.len, fun j hj => ?_, hd'.sol, fun j hj v h1 h2 => ?_⟩
  ·have := hd'.rng j hj
   have := hu.rng j hj
   dsimp only
   omega
  ·obtain ⟨x, hx, hxv⟩ := exact (netT l) (netT_ok hok) (Lo (upF l kids r)) (Hi (upF l kids r)) (Lo (downF l kids (upF l kids r))) (Hi (downF l kids (upF l kids r))) (fun i hi => (hu.rng i hi).2.1) (fun i hi hne => hu.eq i hi hne)
    (fun i hi => hd'.rng i hi) (fun i hi k hk' => hd'.cut i hi k hk') j hj v h1 h2
   exact ⟨x, ⟨fun i hi => by have := hx.1 i hi; have := hu.rng i hi; omega, hx.2⟩, hxv⟩
end
end Go.Proofs.Ytolmjhpapidmhaa.P
end
section
namespace Go.Proofs.Ytolmjhpapidmhaa.P
open Go.RowKit Go.Proofs.YtolmjhpapidmhaaW.PrintWords Go.Proofs.YtolmjhpapidmhaaW.PrintLast Go.Proofs.YtolmjhpapidmhaaW.PrintMore
attribute [local go_sem] max2_int min2_int max_two min_two max_three min_three max_four min_four
set_option linter.unusedVariables false
set_option linter.unusedSimpArgs false
set_option maxHeartbeats 8000000
set_option maxRecDepth 100000
section
def cohousingref28_empty.l0 : Nat → List (S46) → Int → Option (Bool)
 | 0, _, _ => none
 | k + 1, x0, x3 => if x3 < (x0.length : Int) then (if 0 ≤ x3 then (if ((rd_T46 x0 x3).f0) > ((rd_T46 x0 x3).f1) then (some true) else (cohousingref28_empty.l0 k x0 (wrap64 (x3 + 1)))) else (none)) else (some false)
def cohousingref28_empty.f (k : Nat) (l0 : List (S46)) : Option (Bool) := cohousingref28_empty.l0 k l0 0
end
section
def cohousingref28_below.l0 : Nat → List (S44) → Int → List Int → Int → Option (List Int)
 | 0, _, _, _, _ => none
 | k + 1, x0, x1, x5, x6 => if x6 < (x0.length : Int) then (if 0 ≤ x6 then (if 0 ≤ x1 then (if x1 < (x0.length : Int) then (if ((rd_T44 x0 x6).f1) = ((rd_T44 x0 x1).f0) then (if x5.length < 17592186044416 then (cohousingref28_below.l0 k x0 x1 (x5 ++ [x6]) (wrap64 (x6 + 1))) else (none)) else (cohousingref28_below.l0 k x0 x1 x5 (wrap64 (x6 + 1)))) else (none)) else (none)) else (none)) else (some x5)
def cohousingref28_below.f (k : Nat) (l0 : List (S44)) (a1 : Int) : Option (List Int) := cohousingref28_below.l0 k l0 a1 ([] : List Int) (wrap64 (a1 + 1))
end
section
def cohousingref28_narrow.f (a0_0 : Int) (a0_1 : Int) (a1 : Int) (a2 : Int) : Option (Int × Int) := some (mx a0_0 a1, mn a0_1 a2)
end
section
mutual
def cohousingref28_equation.l0 : Nat → List (S44) → List (S46) → Int → List Int → Int → Int → Int → Option ((List (S46)))
 | 0, _, _, _, _, _, _, _ => none
 | k + 1, x0, x1, x2, x3, x9, x10, x11 => if x11 < (x3.length : Int) then (if 0 ≤ x11 then (if 0 ≤ (rd x3 x11) then (if (rd x3 x11) < (x1.length : Int) then (cohousingref28_equation.l0 k x0 x1 x2 x3 (wrap64 (x9 + ((rd_T46 x1 (rd x3 x11)).f0))) (wrap64 (x10 + ((rd_T46 x1 (rd x3 x11)).f1))) (wrap64 (x11 + 1))) else (none)) else (none)) else (none)) else (if 0 ≤ x2 then (if x2 < (x1.length : Int) then (if x2 < (x0.length : Int) then ((cohousingref28_narrow.f ((rd_T46 x1 x2).f0) ((rd_T46 x1 x2).f1) x9 (wrap64 (x10 + ((rd_T44 x0 x2).f2)))).bind fun bt208 => (cohousingref28_equation.l1 k x0 x1 x2 x9 x10 ([] : List (S46)) 0 bt208.1 bt208.2)) else (none)) else (none)) else (none))
def cohousingref28_equation.l1 : Nat → List (S44) → List (S46) → Int → Int → Int → List (S46) → Int → Int → Int → Option ((List (S46)))
 | 0, _, _, _, _, _, _, _, _, _ => none
 | k + 1, x0, x1, x2, x9, x10, x13, x14, x211000, x211001 => if x14 < (x1.length : Int) then (if 0 ≤ x14 then (if x14 = x2 then (if x14 > x2 then (if x14 < (x0.length : Int) then (if 0 ≤ x2 then (if x2 < (x0.length : Int) then (if ((rd_T44 x0 x14).f1) = ((rd_T44 x0 x2).f0) then ((cohousingref28_narrow.f x211000 x211001 (wrap64 ((wrap64 (x211000 - ((rd_T44 x0 x2).f2))) - (wrap64 (x10 - x211001)))) (wrap64 (x211001 - (wrap64 (x9 - x211000))))).bind fun bt216 => (if x13.length < 8796093022208 then (cohousingref28_equation.l1 k x0 x1 x2 x9 x10 (x13 ++ [(⟨bt216.1, bt216.2⟩ : S46)]) (wrap64 (x14 + 1)) x211000 x211001) else (none))) else (if x13.length < 8796093022208 then (cohousingref28_equation.l1 k x0 x1 x2 x9 x10 (x13 ++ [(⟨x211000, x211001⟩ : S46)]) (wrap64 (x14 + 1)) x211000 x211001) else (none))) else (none)) else (none)) else (none)) else (if x13.length < 8796093022208 then (cohousingref28_equation.l1 k x0 x1 x2 x9 x10 (x13 ++ [(⟨x211000, x211001⟩ : S46)]) (wrap64 (x14 + 1)) x211000 x211001) else (none))) else (if x14 > x2 then (if x14 < (x0.length : Int) then (if 0 ≤ x2 then (if x2 < (x0.length : Int) then (if ((rd_T44 x0 x14).f1) = ((rd_T44 x0 x2).f0) then ((cohousingref28_narrow.f ((rd_T46 x1 x14).f0) ((rd_T46 x1 x14).f1) (wrap64 ((wrap64 (x211000 - ((rd_T44 x0 x2).f2))) - (wrap64 (x10 - ((rd_T46 x1 x14).f1))))) (wrap64 (x211001 - (wrap64 (x9 - ((rd_T46 x1 x14).f0)))))).bind fun bt230 => (if x13.length < 8796093022208 then (cohousingref28_equation.l1 k x0 x1 x2 x9 x10 (x13 ++ [(⟨bt230.1, bt230.2⟩ : S46)]) (wrap64 (x14 + 1)) x211000 x211001) else (none))) else (if x13.length < 8796093022208 then (cohousingref28_equation.l1 k x0 x1 x2 x9 x10 (x13 ++ [(⟨(rd_T46 x1 x14).f0, (rd_T46 x1 x14).f1⟩ : S46)]) (wrap64 (x14 + 1)) x211000 x211001) else (none))) else (none)) else (none)) else (none)) else (if x13.length < 8796093022208 then (cohousingref28_equation.l1 k x0 x1 x2 x9 x10 (x13 ++ [(⟨(rd_T46 x1 x14).f0, (rd_T46 x1 x14).f1⟩ : S46)]) (wrap64 (x14 + 1)) x211000 x211001) else (none)))) else (none)) else (some x13)
end
def cohousingref28_equation.f (k : Nat) (l0 : List (S44)) (l1 : List (S46)) (a2 : Int) (l3 : List Int) : Option ((List (S46))) := cohousingref28_equation.l0 k l0 l1 a2 l3 0 0 0
end
section
def cohousingref28_once.l0 : Nat → List (S44) → List (S46) → Int → Option ((List (S46)))
 | 0, _, _, _ => none
 | k + 1, x0, x1, x5 => if x5 ≥ 0 then ((cohousingref28_below.f k x0 x5).bind fun t241 => (if (t241.length : Int) > 0 then ((cohousingref28_empty.f k x1).bind fun t244 => (if t244 = true then (cohousingref28_once.l0 k x0 x1 (wrap64 (x5 - 1))) else ((cohousingref28_equation.f k x0 x1 x5 t241).bind fun t245 => (cohousingref28_once.l0 k x0 t245 (wrap64 (x5 - 1)))))) else (cohousingref28_once.l0 k x0 x1 (wrap64 (x5 - 1))))) else (some x1)
def cohousingref28_once.f (k : Nat) (l0 : List (S44)) (l1 : List (S46)) : Option ((List (S46))) := cohousingref28_once.l0 k l0 l1 (wrap64 ((l0.length : Int) - 1))
end
section
theorem eqA46 (d : Nat) (w : World) (x0 y0 : Int) (x1 y1 : Int) :
  (Op.equalIn (d + 2) 46 (.agg #[.int .i64 x0, .int .i64 x1]) (.agg #[.int .i64 y0, .int .i64 y1])).run Try.prog w = .ok (x0 == y0 && (x1 == y1)) w := by
 refine eqA_of Try.underlying46 (by kernel_rfl) ?_
 refine eqf_cons (by rfl) (by go_simp; rfl) (by go_simp; rfl) (by go_simp) ?_
 exact eqf_last (by rfl) (by go_simp; rfl) (by go_simp; rfl) (by go_simp)
end
section
attribute [local go_sem high] eqA46
def cohousingref28_Same.l0 : Nat → List (S46) → List (S46) → Int → Option (Bool)
 | 0, _, _, _ => none
 | k + 1, x0, x1, x5 => if x5 < (x0.length : Int) then (if 0 ≤ x5 then (if x5 < (x1.length : Int) then (if (!(((rd_T46 x0 x5).f0) == ((rd_T46 x1 x5).f0)) || (!(((rd_T46 x0 x5).f1) == ((rd_T46 x1 x5).f1)))) = true then (some false) else (cohousingref28_Same.l0 k x0 x1 (wrap64 (x5 + 1)))) else (none)) else (none)) else (some true)
def cohousingref28_Same.f (k : Nat) (l0 : List (S46)) (l1 : List (S46)) : Option (Bool) := if (l0.length : Int) = (l1.length : Int) then (cohousingref28_Same.l0 k l0 l1 0) else (some false)
end
section
def cohousingref28_bounds.l0 : Nat → List (S44) → List (S46) → Option ((List (S46)) × Bool)
 | 0, _, _ => none
 | k + 1, x0, x1 => (cohousingref28_once.f k x0 x1).bind fun t250 => ((cohousingref28_empty.f k t250).bind fun t253 => (if t253 = true then (some (([] : List (S46)), false)) else ((cohousingref28_Same.f k t250 x1).bind fun t254 => (if t254 = true then (some (t250, true)) else (cohousingref28_bounds.l0 k x0 t250)))))
def cohousingref28_bounds.f (k : Nat) (l0 : List (S44)) (l1 : List (S46)) : Option ((List (S46)) × Bool) := cohousingref28_bounds.l0 k l0 l1
end
end Go.Proofs.Ytolmjhpapidmhaa.P
end
section
namespace Go.Proofs.Ytolmjhpapidmhaa.P
open Go.RowKit Go.Proofs.YtolmjhpapidmhaaW.PrintWords Go.Proofs.YtolmjhpapidmhaaW.PrintLast Go.Proofs.YtolmjhpapidmhaaW.PrintMore Go.Proofs.YtolmjhpapidmhaaH Go.Proofs.FlowTree
open Classical
def Ev {α : Type} (f : Nat → Option α) (r : α) : Prop := ∃ k0, ∀ k, k0 ≤ k → f k = some r
theorem Ev.step {α : Type} {f : Nat → Option α} {r : α} (h : Ev (fun k => f (k + 1)) r) : Ev f r := by
 obtain ⟨k0, h⟩ := h
 refine ⟨k0 + 1, fun k hk => ?_⟩
 obtain ⟨k, rfl⟩ : ∃ m, k = m + 1 := ⟨k - 1, by omega⟩
 exact h k (by omega)
theorem Ev.pure {α : Type} (r : α) : Ev (fun _ => some r) r := ⟨0, fun _ _ => rfl⟩
theorem Ev.bnd {α β : Type} {f : Nat → Option β} {g : β → Nat → Option α} {b : β} {r : α} (hf : Ev f b) (hg : Ev (g b) r) : Ev (fun k => (f k).bind fun t => g t k) r := by
 obtain ⟨k0, h⟩ := hf
 obtain ⟨k1, h1⟩ := hg
 refine ⟨max k0 k1, fun k hk => ?_⟩
 show (f k).bind _ = _
 rw [h k (by omega)]
 exact h1 k (by omega)
theorem Ev.congr {α : Type} {f g : Nat → Option α} {r : α} (h : ∀ k, f k = g k) (hg : Ev g r) : Ev f r := by
 obtain ⟨k0, h0⟩ := hg
 exact ⟨k0, fun k hk => (h k).trans (h0 k hk)⟩
theorem wrap_nat {n : Nat} (h : n ≤ 140737488355328) : wrap64 ((n : Int) + 1) = ((n + 1 : Nat) : Int) := by unfold wrap64; omega
abbrev RG := S46
theorem idP_take (l : List PI) (m j : Nat) (h : j < m) : idP (l.take m) j = idP l j := by
 simp only [idP, rd_T44, Int.toNat_natCast, List.getD_eq_getElem?_getD, List.getElem?_take, if_pos h]
theorem at_l0 (l : List PI) (a : Int) (hB : l.length ≤ 140737488355328) : ∀ (d i : Nat), i + d = l.length → ∃ v : Int, Ev (fun k => cohousingref28_At.l0 k l a (i : Int)) v ∧ (v < 0 ↔ ∀ j, i ≤ j → j < l.length → idP l j ≠ a) := by
 intro d
 induction d with
 | zero =>
  intro i hi
  have h1 : ¬ ((i : Int) < (l.length : Int)) := by omega
  refine ⟨-1, Ev.step ?_, ⟨fun _ j h2 h3 => by omega, fun _ => by omega⟩⟩
  simp only [cohousingref28_At.l0, h1, if_false]
  exact Ev.pure _
 | succ d ih =>
  intro i hi
  have h1 : ((i : Int) < (l.length : Int)) := by omega
  have h2 : (0 : Int) ≤ (i : Int) := by omega
  by_cases he : (rd_T44 l (i : Int)).f0 = a
  ·refine ⟨(i : Int), Ev.step ?_, ⟨fun h => by omega, fun h => absurd he (h i (Nat.le_refl _) (by omega))⟩⟩
   simp only [cohousingref28_At.l0, h1, h2, he, if_true]
   exact Ev.pure _
  ·obtain ⟨v, hv, hs⟩ := ih (i + 1) (by omega)
   refine ⟨v, Ev.step ?_, ?_⟩
   ·simp only [cohousingref28_At.l0, h1, h2, he, if_true, if_false, wrap_nat (show i ≤ 140737488355328 by omega)]
    exact hv
   ·rw [hs]
    constructor
    ·intro h j h3 h4
     by_cases e : j = i
     ·subst e; exact he
     ·exact h j (by omega) h4
    ·intro h j h3 h4
     exact h j (by omega) h4
theorem at_f (l : List PI) (a : Int) (hB : l.length ≤ 140737488355328) : ∃ v : Int, Ev (fun k => cohousingref28_At.f k l a) v ∧ (v < 0 ↔ ∀ j, j < l.length → idP l j ≠ a) := by
 obtain ⟨v, hv, hs⟩ := at_l0 l a hB l.length 0 (by omega)
 exact ⟨v, hv, hs.trans ⟨fun h j hj => h j (Nat.zero_le _) hj, fun h j _ hj => h j hj⟩⟩
theorem volume_dec (n : Int) : cohousingref28_Volume.f n = some (decide (0 ≤ n ∧ n ≤ 1000000000)) := by
 unfold cohousingref28_Volume.f
 (repeat' split) <;> simp_all <;> omega
theorem valid_j1 (l : List PI) (hB : l.length ≤ 140737488355328) (i : Nat) (hi : i < l.length) (b R : Bool) (hb : b = decide (¬ (1 ≤ idP l i ∧ (0 < i → idP l (i - 1) < idP l i) ∧ (0 ≤ loP l i ∧ loP l i ≤ 1000000000))))
  (hyes : okP l i → Ev (fun k => cohousingref28_Valid.l0 k l ((i + 1 : Nat) : Int)) R) (hno : ¬ okP l i → R = false) : Ev (fun k => cohousingref28_Valid.j1 k l (i : Int) b) R := by
 refine Ev.step ?_
 have h1 : ((i : Int) < (l.length : Int)) := by omega
 have h2 : (0 : Int) ≤ (i : Int) := by omega
 have h3 : ((i : Int) ≤ (l.length : Int)) := by omega
 cases b with
 | true =>
  have hbad := of_decide_eq_true hb.symm
  rw [hno (fun h => hbad ⟨h.1, h.2.1, h.2.2.1⟩)]
  simp only [cohousingref28_Valid.j1, if_true]
  exact Ev.pure _
 | false =>
  have hgood := Decidable.not_not.1 (of_decide_eq_false hb.symm)
  simp only [cohousingref28_Valid.j1, h1, h2, h3, if_true, Bool.false_eq_true, if_false, wrap_nat (show i ≤ 140737488355328 by omega), Int.toNat_natCast]
  by_cases ha : (rd_T44 l (i : Int)).f1 = 0
  ·simp only [ha, if_true]
   exact hyes ⟨hgood.1, hgood.2.1, hgood.2.2, fun h => absurd ha h⟩
  ·simp only [ha, if_false]
   have hlen : (l.take i).length = i := by rw [List.length_take]; omega
   obtain ⟨v, hv, hs⟩ := at_f (l.take i) (rd_T44 l (i : Int)).f1 (by omega)
   refine Ev.bnd hv ?_
   rw [hlen] at hs
   by_cases hv0 : v < 0
   ·simp only [hv0, if_true]
    have h4 := hs.1 hv0
    rw [hno (fun h => by
     obtain ⟨j, hj, e⟩ := h.2.2.2 ha
     exact h4 j hj ((idP_take l i j hj).trans e))]
    exact Ev.pure _
   ·simp only [hv0, if_false]
    refine hyes ⟨hgood.1, hgood.2.1, hgood.2.2, fun _ => ?_⟩
    by_cases hex : ∃ j, j < i ∧ idP l j = abP l i
    ·exact hex
    ·refine absurd (hs.2 (fun j hj e => hex ⟨j, hj, ?_⟩)) hv0
     rw [idP_take l i j hj] at e
     exact e
theorem valid_l0 (l : List PI) (hB : l.length ≤ 140737488355328) : ∀ (d i : Nat), i + d = l.length → Ev (fun k => cohousingref28_Valid.l0 k l (i : Int)) (decide (∀ j, i ≤ j → j < l.length → okP l j) && decide (l.length ≤ 200)) := by
 intro d
 induction d with
 | zero =>
  intro i hi
  have h1 : ¬ ((i : Int) < (l.length : Int)) := by omega
  refine Ev.step ?_
  simp only [cohousingref28_Valid.l0, h1, if_false]
  rw [decide_eq_true (show ∀ j, i ≤ j → j < l.length → okP l j from fun j h2 h3 => by omega), Bool.true_and]
  rw [show decide ((l.length : Int) ≤ 200) = decide (l.length ≤ 200) from decide_eq_decide.2 (by omega)]
  exact Ev.pure _
 | succ d ih =>
  intro i hi
  have h1 : ((i : Int) < (l.length : Int)) := by omega
  have h2 : (0 : Int) ≤ (i : Int) := by omega
  obtain ⟨R, hR⟩ : ∃ R, R = (decide (∀ j, i ≤ j → j < l.length → okP l j) && decide (l.length ≤ 200)) := ⟨_, rfl⟩
  rw [← hR]
  have hyes : okP l i → Ev (fun k => cohousingref28_Valid.l0 k l ((i + 1 : Nat) : Int)) R := fun ho => by
   have e : decide (∀ j, i ≤ j → j < l.length → okP l j) = decide (∀ j, i + 1 ≤ j → j < l.length → okP l j) := decide_eq_decide.2 ⟨fun h j h3 h4 => h j (by omega) h4, fun h j h3 h4 => by
    by_cases e : j = i
    ·subst e; exact ho
    ·exact h j (by omega) h4⟩
   rw [hR, e]
   exact ih (i + 1) (by omega)
  have hno : ¬ okP l i → R = false := fun hn => by
   rw [hR, decide_eq_false (fun h => hn (h i (Nat.le_refl _) (by omega))), Bool.false_and]
  refine Ev.step ?_
  simp only [cohousingref28_Valid.l0, h1, h2, if_true]
  by_cases c1 : (rd_T44 l (i : Int)).f0 < 1
  ·simp only [c1, if_true]
   exact valid_j1 l hB i (by omega) true R (by symm; apply decide_eq_true; intro h; have := h.1; simp only [idP] at this; omega) hyes hno
  ·simp only [c1, if_false]
   by_cases c2 : (i : Int) > 0
   ·have e : wrap64 ((i : Int) - 1) = ((i - 1 : Nat) : Int) := by unfold wrap64; omega
    have h3 : (0 : Int) ≤ ((i - 1 : Nat) : Int) := by omega
    have h4 : (((i - 1 : Nat) : Int) < (l.length : Int)) := by omega
    simp only [c2, if_true, e, h3, h4]
    by_cases c3 : (rd_T44 l (i : Int)).f0 ≤ (rd_T44 l ((i - 1 : Nat) : Int)).f0
    ·simp only [c3, if_true]
     exact valid_j1 l hB i (by omega) true R (by symm; apply decide_eq_true; intro h; have := h.2.1 (by omega); simp only [idP] at this; omega) hyes hno
    ·simp only [c3, if_false, volume_dec, Option.bind_some]
     refine valid_j1 l hB i (by omega) _ R ?_ hyes hno
     rw [← decide_not]
     apply decide_eq_decide.2
     simp only [idP, loP]
     constructor
     ·intro h h'; exact h h'.2.2
     ·intro h h'; exact h ⟨by omega, fun _ => by omega, h'⟩
   ·simp only [c2, if_false, volume_dec, Option.bind_some]
    refine valid_j1 l hB i (by omega) _ R ?_ hyes hno
    rw [← decide_not]
    apply decide_eq_decide.2
    simp only [idP, loP]
    constructor
    ·intro h h'; exact h h'.2.2
    ·intro h h'; exact h ⟨by omega, fun h0 => by omega, h'⟩
theorem valid_f (l : List PI) (hB : l.length ≤ 140737488355328) : Ev (fun k => cohousingref28_Valid.f k l) (decide (okL l ∧ l.length ≤ 200)) := by
 have := valid_l0 l hB l.length 0 (by omega)
 rw [show decide (okL l ∧ l.length ≤ 200) = (decide (∀ j, 0 ≤ j → j < l.length → okP l j) && decide (l.length ≤ 200)) from by
  rw [Bool.decide_and]
  congr 1
  exact decide_eq_decide.2 ⟨fun h j _ hj => h j hj, fun h j hj => h j (Nat.zero_le _) hj⟩]
 exact this
theorem range_split (i n : Nat) (h : i < n) : List.range n = List.range (i + 1) ++ List.range' (i + 1) (n - (i + 1)) := by
 rw [List.range_eq_range', List.range_eq_range', show n = (i + 1) + (n - (i + 1)) by omega, ← List.range'_append]
 simp
theorem kidsAt_range (l : List PI) (i : Nat) (h : i < l.length) : kidsAt l l.length i = (List.range' (i + 1) (l.length - (i + 1))).filter (fun k => decide (abP l k = idP l i)) := by
 unfold kidsAt
 rw [range_split i l.length h, List.filter_append]
 have e1 : (List.range (i + 1)).filter (fun k => decide (i < k) && decide (abP l k = idP l i)) = [] := by
  rw [List.filter_eq_nil_iff]
  intro k hk
  have := List.mem_range.1 hk
  simp; omega
 rw [e1, List.nil_append]
 apply List.filter_congr
 intro k hk
 have := List.mem_range'.1 hk
 obtain ⟨j, hj, e⟩ := this
 rw [decide_eq_true (show i < k by omega), Bool.true_and]
theorem below_l0' (l : List PI) (hB : l.length ≤ 200) (i : Nat) (hi : i < l.length) : ∀ (d x : Nat) (acc : List Int), x + d = l.length → acc.length ≤ x →
  Ev (fun k => cohousingref28_below.l0 k l (i : Int) acc (x : Int)) (acc ++ ((List.range' x d).filter (fun k => decide (abP l k = idP l i))).map Int.ofNat) := by
 intro d
 induction d with
 | zero =>
  intro x acc hx _
  have h1 : ¬ ((x : Int) < (l.length : Int)) := by omega
  refine Ev.step ?_
  simp only [cohousingref28_below.l0, h1, if_false, List.range'_zero, List.filter_nil, List.map_nil, List.append_nil]
  exact Ev.pure _
 | succ d ih =>
  intro x acc hx ha
  have h1 : ((x : Int) < (l.length : Int)) := by omega
  have h2 : (0 : Int) ≤ (x : Int) := by omega
  have h3 : (0 : Int) ≤ (i : Int) := by omega
  have h4 : ((i : Int) < (l.length : Int)) := by omega
  refine Ev.step ?_
  rw [List.range'_succ]
  by_cases hc : (rd_T44 l (x : Int)).f1 = (rd_T44 l (i : Int)).f0
  ·have h5 : acc.length < 17592186044416 := by omega
   ·simp only [cohousingref28_below.l0, h1, h2, h3, h4, h5, hc, if_true, wrap_nat (show x ≤ 140737488355328 by omega)]
    rw [List.filter_cons_of_pos (by simpa using hc)]
    have := ih (x + 1) (acc ++ [(x : Int)]) (by omega) (by simp; omega)
    rw [List.append_assoc] at this
    exact this
  ·simp only [cohousingref28_below.l0, h1, h2, h3, h4, hc, if_true, if_false, wrap_nat (show x ≤ 140737488355328 by omega)]
   rw [List.filter_cons_of_neg (by simpa using hc)]
   exact ih (x + 1) acc (by omega) (by omega)
theorem below_f' (l : List PI) (hB : l.length ≤ 200) (i : Nat) (hi : i < l.length) : Ev (fun k => cohousingref28_below.f k l (i : Int)) ((kidsAt l l.length i).map Int.ofNat) := by
 have := below_l0' l hB i hi (l.length - (i + 1)) (i + 1) [] (by omega) (by simp)
 rw [kidsAt_range l i hi]
 unfold cohousingref28_below.f
 rw [wrap_nat (by omega)]
 rw [List.nil_append] at this
 exact this
abbrev rr (r : List RG) (i : Nat) : RG := rd_T46 r i
theorem rv_toI (r : List RG) (i : Nat) : rv (r.map toI) i = toI (rr r i) := by
 simp only [rv, rr, rd_T74, rd_T46, Int.toNat_natCast, List.getD_eq_getElem?_getD, List.getElem?_map]
 cases r[i]? <;> rfl
theorem Lo_toI (r : List RG) (i : Nat) : Lo (r.map toI) i = (rr r i).f0 := by unfold Lo; rw [rv_toI]; rfl
theorem Hi_toI (r : List RG) (i : Nat) : Hi (r.map toI) i = (rr r i).f1 := by unfold Hi; rw [rv_toI]; rfl
theorem empty_l0 (r : List RG) (hB : r.length ≤ 140737488355328) : ∀ (d i : Nat), i + d = r.length → Ev (fun k => cohousingref28_empty.l0 k r (i : Int)) (decide (∃ j, i ≤ j ∧ j < r.length ∧ (rr r j).f1 < (rr r j).f0)) := by
 intro d
 induction d with
 | zero =>
  intro i hi
  have h1 : ¬ ((i : Int) < (r.length : Int)) := by omega
  refine Ev.step ?_
  simp only [cohousingref28_empty.l0, h1, if_false]
  rw [decide_eq_false (by rintro ⟨j, h2, h3, _⟩; omega)]
  exact Ev.pure _
 | succ d ih =>
  intro i hi
  have h1 : ((i : Int) < (r.length : Int)) := by omega
  have h2 : (0 : Int) ≤ (i : Int) := by omega
  refine Ev.step ?_
  by_cases hc : (rd_T46 r (i : Int)).f0 > (rd_T46 r (i : Int)).f1
  ·simp only [cohousingref28_empty.l0, h1, h2, hc, if_true]
   rw [decide_eq_true ⟨i, Nat.le_refl _, by omega, hc⟩]
   exact Ev.pure _
  ·simp only [cohousingref28_empty.l0, h1, h2, hc, if_true, if_false, wrap_nat (show i ≤ 140737488355328 by omega)]
   have := ih (i + 1) (by omega)
   rw [show decide (∃ j, i ≤ j ∧ j < r.length ∧ (rr r j).f1 < (rr r j).f0) = decide (∃ j, i + 1 ≤ j ∧ j < r.length ∧ (rr r j).f1 < (rr r j).f0) from decide_eq_decide.2 ⟨fun ⟨j, h3, h4, h5⟩ => ⟨j, by
    by_cases e : j = i
    ·subst e; exact absurd h5 hc
    ·omega, h4, h5⟩, fun ⟨j, h3, h4, h5⟩ => ⟨j, by omega, h4, h5⟩⟩]
   exact this
theorem empty_f (r : List RG) (hB : r.length ≤ 140737488355328) : Ev (fun k => cohousingref28_empty.f k r) (decide (∃ j, j < r.length ∧ (rr r j).f1 < (rr r j).f0)) := by
 have := empty_l0 r hB r.length 0 (by omega)
 rw [show decide (∃ j, j < r.length ∧ (rr r j).f1 < (rr r j).f0) = decide (∃ j, 0 ≤ j ∧ j < r.length ∧ (rr r j).f1 < (rr r j).f0) from decide_eq_decide.2 ⟨fun ⟨j, h⟩ => ⟨j, Nat.zero_le _, h⟩, fun ⟨j, _, h⟩ => ⟨j, h⟩⟩]
 exact this
theorem same_l0 (a b : List RG) (hB : a.length ≤ 140737488355328) (hl : a.length = b.length) : ∀ (d i : Nat), i + d = a.length → Ev (fun k => cohousingref28_Same.l0 k a b (i : Int)) (decide (∀ j, i ≤ j → j < a.length → rr a j = rr b j)) := by
 intro d
 induction d with
 | zero =>
  intro i hi
  have h1 : ¬ ((i : Int) < (a.length : Int)) := by omega
  refine Ev.step ?_
  simp only [cohousingref28_Same.l0, h1, if_false]
  rw [decide_eq_true (fun j h2 h3 => by omega)]
  exact Ev.pure _
 | succ d ih =>
  intro i hi
  have h1 : ((i : Int) < (a.length : Int)) := by omega
  have h2 : (0 : Int) ≤ (i : Int) := by omega
  have h3 : ((i : Int) < (b.length : Int)) := by omega
  refine Ev.step ?_
  by_cases hc : rr a i = rr b i
  ·have hc' : (!(((rd_T46 a (i : Int)).f0) == ((rd_T46 b (i : Int)).f0)) || (!(((rd_T46 a (i : Int)).f1) == ((rd_T46 b (i : Int)).f1)))) = false := by
    have : rd_T46 a (i : Int) = rd_T46 b (i : Int) := hc
    rw [this]; simp
   simp only [cohousingref28_Same.l0, h1, h2, h3, hc', if_true, if_false, Bool.false_eq_true, wrap_nat (show i ≤ 140737488355328 by omega)]
   have := ih (i + 1) (by omega)
   rw [show decide (∀ j, i ≤ j → j < a.length → rr a j = rr b j) = decide (∀ j, i + 1 ≤ j → j < a.length → rr a j = rr b j) from decide_eq_decide.2 ⟨fun h j h4 h5 => h j (by omega) h5, fun h j h4 h5 => by
    by_cases e : j = i
    ·subst e; exact hc
    ·exact h j (by omega) h5⟩]
   exact this
  ·have hc' : (!(((rd_T46 a (i : Int)).f0) == ((rd_T46 b (i : Int)).f0)) || (!(((rd_T46 a (i : Int)).f1) == ((rd_T46 b (i : Int)).f1)))) = true := by
    rw [Bool.or_eq_true, Bool.not_eq_true', Bool.not_eq_true', beq_eq_false_iff_ne, beq_eq_false_iff_ne]
    by_cases h4 : (rd_T46 a (i : Int)).f0 = (rd_T46 b (i : Int)).f0
    ·refine .inr (fun h5 => hc ?_)
     show rd_T46 a (i : Int) = rd_T46 b (i : Int)
     cases ha : rd_T46 a (i : Int)
     cases hb : rd_T46 b (i : Int)
     rw [ha, hb] at h4 h5
     simp only at h4 h5
     rw [h4, h5]
    ·exact .inl h4
   simp only [cohousingref28_Same.l0, h1, h2, h3, hc', if_true]
   rw [decide_eq_false (fun h => hc (h i (Nat.le_refl _) (by omega)))]
   exact Ev.pure _
theorem rr_ext {a b : List RG} (hl : a.length = b.length) (h : ∀ j, j < a.length → rr a j = rr b j) : a = b := by
 apply List.ext_getElem hl
 intro i h1 h2
 have := h i h1
 simp only [rr, rd_T46, Int.toNat_natCast, List.getD_eq_getElem?_getD, List.getElem?_eq_getElem h1, List.getElem?_eq_getElem h2, Option.getD_some] at this
 exact this
theorem same_f (a b : List RG) (hB : a.length ≤ 140737488355328) : Ev (fun k => cohousingref28_Same.f k a b) (decide (a = b)) := by
 unfold cohousingref28_Same.f
 by_cases hl : a.length = b.length
 ·have h1 : (a.length : Int) = (b.length : Int) := by omega
  simp only [h1, if_true]
  have := same_l0 a b hB hl a.length 0 (by omega)
  rw [show decide (a = b) = decide (∀ j, 0 ≤ j → j < a.length → rr a j = rr b j) from decide_eq_decide.2 ⟨fun h j _ _ => by rw [h], fun h => rr_ext hl (fun j hj => h j (Nat.zero_le _) hj)⟩]
  exact this
 ·have h1 : ¬ (a.length : Int) = (b.length : Int) := by omega
  simp only [h1, if_false]
  rw [decide_eq_false (fun h => hl (by rw [h]))]
  exact Ev.pure _
end Go.Proofs.Ytolmjhpapidmhaa.P
end
section
namespace Go.Proofs.Ytolmjhpapidmhaa.P
open Go.RowKit Go.Proofs.YtolmjhpapidmhaaW.PrintWords Go.Proofs.YtolmjhpapidmhaaW.PrintLast Go.Proofs.YtolmjhpapidmhaaW.PrintMore Go.Proofs.YtolmjhpapidmhaaH Go.Proofs.FlowTree
open Classical
def lo9 (r : List RG) (j : Nat) : Int := (rr r j).f0
def hi9 (r : List RG) (j : Nat) : Int := (rr r j).f1
theorem mx_max (a b : Int) : mx a b = max a b := by unfold mx; split <;> omega
theorem mn_min (a b : Int) : mn a b = min a b := by unfold mn; split <;> omega
section
variable (l : List PI) (r : List RG) (i : Nat)
def sL : Int := sm (lo9 r) (kidsAt l l.length i)
def sH : Int := sm (hi9 r) (kidsAt l l.length i)
def ownA : Int := max (lo9 r i) (sL l r i)
def ownB : Int := min (hi9 r i) (sH l r i + loP l i)
def eqAt (j : Nat) : RG :=
 if j = i then ⟨ownA l r i, ownB l r i⟩ else
 if i < j ∧ abP l j = idP l i then ⟨max (lo9 r j) (ownA l r i - loP l i - (sH l r i - hi9 r j)), min (hi9 r j) (ownB l r i - (sL l r i - lo9 r j))⟩ else rr r j
end
theorem take_sm (f : Nat → Int) (ks : List Nat) (x : Nat) (h : x < ks.length) : sm f (ks.take (x + 1)) = sm f (ks.take x) + f ks[x] := by
 rw [List.take_succ_eq_append_getElem h, sm_append, sm_cons, sm_nil]; omega
theorem rd_ofNat (ks : List Nat) (x : Nat) (h : x < ks.length) : rd (ks.map Int.ofNat) (x : Int) = (ks[x] : Int) := by
 simp [rd, List.getD_eq_getElem?_getD, h]
theorem sm_take_le {f : Nat → Int} {ks : List Nat} {B : Int} (h : ∀ k ∈ ks, 0 ≤ f k ∧ f k ≤ B) (x : Nat) : 0 ≤ sm f (ks.take x) ∧ sm f (ks.take x) ≤ sm f ks := by
 have h1 : 0 ≤ sm f (ks.take x) := sm_nonneg (fun k hk => (h k (List.mem_of_mem_take hk)).1)
 have h2 : 0 ≤ sm f (ks.drop x) := sm_nonneg (fun k hk => (h k (List.mem_of_mem_drop hk)).1)
 have h3 : sm f ks = sm f (ks.take x) + sm f (ks.drop x) := by rw [← sm_append, List.take_append_drop]
 omega
section
variable {l : List PI} {r : List RG} {i : Nat}
theorem sums_bound (hn : l.length ≤ 200) (hv : Vol l.length (lo9 r) (hi9 r)) : (0 ≤ sL l r i ∧ sL l r i ≤ 200000000000) ∧ (0 ≤ sH l r i ∧ sH l r i ≤ 200000000000) := by
 have hk : ∀ k ∈ kidsAt l l.length i, k < l.length := fun k hk => (kidsAt_mem.1 hk).1
 have bL := sm_bound (f := lo9 r) (ks := kidsAt l l.length i) (a := 0) (b := 1000000000) (fun k hk' => by have := hv k (hk k hk'); omega)
 have bH := sm_bound (f := hi9 r) (ks := kidsAt l l.length i) (a := 0) (b := 1000000000) (fun k hk' => by have := hv k (hk k hk'); omega)
 have bl := kids_len l i
 unfold sL sH
 omega
set_option maxHeartbeats 1000000 in
theorem eq_l1 (hok : okL l) (hn : l.length ≤ 200) (hr : r.length = l.length) (hv : Vol l.length (lo9 r) (hi9 r)) (hi : i < l.length) : ∀ (d x : Nat) (acc : List RG), x + d = l.length → acc.length = x →
  Ev (fun k => cohousingref28_equation.l1 k l r (i : Int) (sL l r i) (sH l r i) acc (x : Int) (ownA l r i) (ownB l r i)) (acc ++ (List.range' x d).map (eqAt l r i)) := by
 intro d
 have hb := sums_bound (i := i) hn hv
 have hvi := hv i hi
 have hlo := (hok i hi).2.2.1
 have hoA : 0 ≤ ownA l r i ∧ ownA l r i ≤ 200000000000 := by unfold ownA; omega
 have hoB : 0 ≤ ownB l r i ∧ ownB l r i ≤ 1000000000 := by unfold ownB; omega
 induction d with
 | zero =>
  intro x acc hx _
  have h1 : ¬ ((x : Int) < (r.length : Int)) := by omega
  refine Ev.step ?_
  simp only [cohousingref28_equation.l1, h1, if_false, List.range'_zero, List.map_nil, List.append_nil]
  exact Ev.pure _
 | succ d ih =>
  intro x acc hx ha
  have h1 : ((x : Int) < (r.length : Int)) := by omega
  have h2 : (0 : Int) ≤ (x : Int) := by omega
  have h3 : ((x : Int) < (l.length : Int)) := by omega
  have h4 : (0 : Int) ≤ (i : Int) := by omega
  have h5 : ((i : Int) < (l.length : Int)) := by omega
  have h6 : acc.length < 8796093022208 := by omega
  have hw := wrap_nat (show x ≤ 140737488355328 by omega)
  have key : Ev (fun k => cohousingref28_equation.l1 k l r (i : Int) (sL l r i) (sH l r i) (acc ++ [eqAt l r i x]) ((x + 1 : Nat) : Int) (ownA l r i) (ownB l r i)) (acc ++ (List.range' x (d + 1)).map (eqAt l r i)) := by
   have := ih (x + 1) (acc ++ [eqAt l r i x]) (by omega) (by simp; omega)
   rw [List.append_assoc] at this
   rw [List.range'_succ, List.map_cons]
   exact this
  refine Ev.step ?_
  simp only [cohousingref28_equation.l1, h1, h2, h3, h4, h5, h6, if_true, hw]
  by_cases hxi : x = i
  ·have c1 : (x : Int) = (i : Int) := by rw [hxi]
   have c2 : ¬ ((i : Int) > (i : Int)) := Int.lt_irrefl _
   simp only [c1, c2, if_true, if_false]
   have e : eqAt l r i x = ⟨ownA l r i, ownB l r i⟩ := by unfold eqAt; rw [if_pos hxi]
   rw [e] at key
   exact key
  ·have c1 : ¬ (x : Int) = (i : Int) := fun h => hxi (Int.ofNat_inj.1 h)
   simp only [c1, if_false]
   by_cases hlt : i < x
   ·have c2 : ((x : Int) > (i : Int)) := Int.ofNat_lt.2 hlt
    simp only [c2, if_true]
    by_cases hab : (rd_T44 l (x : Int)).f1 = (rd_T44 l (i : Int)).f0
    ·simp only [hab, if_true, cohousingref28_narrow.f, Option.bind_some]
     have hvx := hv x (by omega)
     have e : eqAt l r i x = ⟨mx (rd_T46 r (x : Int)).f0 (wrap64 (wrap64 (ownA l r i - (rd_T44 l (i : Int)).f2) - wrap64 (sH l r i - (rd_T46 r (x : Int)).f1))), mn (rd_T46 r (x : Int)).f1 (wrap64 (ownB l r i - wrap64 (sL l r i - (rd_T46 r (x : Int)).f0)))⟩ := by
      unfold eqAt
      rw [if_neg hxi, if_pos ⟨hlt, hab⟩, mx_max, mn_min]
      have w1 : (rd_T46 r (x : Int)).f0 = lo9 r x := rfl
      have w2 : (rd_T46 r (x : Int)).f1 = hi9 r x := rfl
      have w3 : (rd_T44 l (i : Int)).f2 = loP l i := rfl
      rw [w1, w2, w3, wrap_id (n := ownA l r i - loP l i) (by omega) (by omega), wrap_id (n := sH l r i - hi9 r x) (by omega) (by omega), wrap_id (n := sL l r i - lo9 r x) (by omega) (by omega), wrap_id (by omega) (by omega), wrap_id (by omega) (by omega)]
     rw [e] at key
     exact key
    ·simp only [hab, if_false]
     have e : eqAt l r i x = ⟨(rd_T46 r (x : Int)).f0, (rd_T46 r (x : Int)).f1⟩ := by
      unfold eqAt
      rw [if_neg hxi, if_neg (fun h => hab h.2)]
     rw [e] at key
     exact key
   ·have c2 : ¬ ((x : Int) > (i : Int)) := fun h => hlt (Int.ofNat_lt.1 h)
    simp only [c2, if_false]
    have e : eqAt l r i x = ⟨(rd_T46 r (x : Int)).f0, (rd_T46 r (x : Int)).f1⟩ := by
     unfold eqAt
     rw [if_neg hxi, if_neg (fun h => hlt h.1)]
    rw [e] at key
    exact key
theorem eq_l0 (hok : okL l) (hn : l.length ≤ 200) (hr : r.length = l.length) (hv : Vol l.length (lo9 r) (hi9 r)) (hi : i < l.length) : ∀ (d x : Nat), x + d = (kidsAt l l.length i).length →
  Ev (fun k => cohousingref28_equation.l0 k l r (i : Int) ((kidsAt l l.length i).map Int.ofNat) (sm (lo9 r) ((kidsAt l l.length i).take x)) (sm (hi9 r) ((kidsAt l l.length i).take x)) (x : Int)) ((List.range l.length).map (eqAt l r i)) := by
 intro d
 have hb := sums_bound (i := i) hn hv
 have hvi := hv i hi
 have hlo := (hok i hi).2.2.1
 have hkl := kids_len l i
 have hkm : ∀ k ∈ kidsAt l l.length i, k < l.length := fun k hk => (kidsAt_mem.1 hk).1
 induction d with
 | zero =>
  intro x hx
  have h1 : ¬ ((x : Int) < (((kidsAt l l.length i).map Int.ofNat).length : Int)) := by rw [List.length_map]; omega
  have h2 : (0 : Int) ≤ (i : Int) := by omega
  have h3 : ((i : Int) < (r.length : Int)) := by omega
  have h4 : ((i : Int) < (l.length : Int)) := by omega
  refine Ev.step ?_
  rw [List.take_of_length_le (by omega)]
  simp only [cohousingref28_equation.l0, h1, h2, h3, h4, if_true, if_false, cohousingref28_narrow.f, Option.bind_some]
  have e1 : mx (rd_T46 r (i : Int)).f0 (sm (lo9 r) (kidsAt l l.length i)) = ownA l r i := by rw [mx_max]; rfl
  have e2 : mn (rd_T46 r (i : Int)).f1 (wrap64 (sm (hi9 r) (kidsAt l l.length i) + (rd_T44 l (i : Int)).f2)) = ownB l r i := by
   rw [mn_min]
   have w1 : (rd_T44 l (i : Int)).f2 = loP l i := rfl
   have w2 : sm (hi9 r) (kidsAt l l.length i) = sH l r i := rfl
   rw [w1, w2, wrap_id (by omega) (by omega)]
   rfl
  rw [e1, e2]
  have := eq_l1 hok hn hr hv hi l.length 0 [] (by omega) rfl
  rw [List.nil_append, ← List.range_eq_range'] at this
  exact this
 | succ d ih =>
  intro x hx
  have hxl : x < (kidsAt l l.length i).length := by omega
  have h1 : ((x : Int) < (((kidsAt l l.length i).map Int.ofNat).length : Int)) := by rw [List.length_map]; omega
  have h2 : (0 : Int) ≤ (x : Int) := by omega
  have hk := hkm _ (List.getElem_mem hxl)
  have h3 : (0 : Int) ≤ (((kidsAt l l.length i)[x] : Nat) : Int) := by omega
  have h4 : ((((kidsAt l l.length i)[x] : Nat) : Int) < (r.length : Int)) := by omega
  have hvk := hv _ hk
  have t1 := sm_take_le (f := lo9 r) (ks := kidsAt l l.length i) (B := 1000000000) (fun k hk' => by have := hv k (hkm k hk'); omega) (x + 1)
  have t2 := sm_take_le (f := hi9 r) (ks := kidsAt l l.length i) (B := 1000000000) (fun k hk' => by have := hv k (hkm k hk'); omega) (x + 1)
  have hb1 : sm (lo9 r) (kidsAt l l.length i) ≤ 200000000000 := hb.1.2
  have hb2 : sm (hi9 r) (kidsAt l l.length i) ≤ 200000000000 := hb.2.2
  refine Ev.step ?_
  simp only [cohousingref28_equation.l0, h1, h2, if_true, rd_ofNat _ _ hxl, h3, h4, wrap_nat (show x ≤ 140737488355328 by omega)]
  have e1 : wrap64 (sm (lo9 r) ((kidsAt l l.length i).take x) + (rd_T46 r (((kidsAt l l.length i)[x] : Nat) : Int)).f0) = sm (lo9 r) ((kidsAt l l.length i).take (x + 1)) := by
   have w1 : (rd_T46 r (((kidsAt l l.length i)[x] : Nat) : Int)).f0 = lo9 r (kidsAt l l.length i)[x] := rfl
   rw [w1, ← take_sm _ _ _ hxl, wrap_id (by omega) (by omega)]
  have e2 : wrap64 (sm (hi9 r) ((kidsAt l l.length i).take x) + (rd_T46 r (((kidsAt l l.length i)[x] : Nat) : Int)).f1) = sm (hi9 r) ((kidsAt l l.length i).take (x + 1)) := by
   have w1 : (rd_T46 r (((kidsAt l l.length i)[x] : Nat) : Int)).f1 = hi9 r (kidsAt l l.length i)[x] := rfl
   rw [w1, ← take_sm _ _ _ hxl, wrap_id (by omega) (by omega)]
  rw [e1, e2]
  exact ih (x + 1) (by omega)
theorem eq_f (hok : okL l) (hn : l.length ≤ 200) (hr : r.length = l.length) (hv : Vol l.length (lo9 r) (hi9 r)) (hi : i < l.length) :
  Ev (fun k => cohousingref28_equation.f k l r (i : Int) ((kidsAt l l.length i).map Int.ofNat)) ((List.range l.length).map (eqAt l r i)) :=
 eq_l0 hok hn hr hv hi (kidsAt l l.length i).length 0 (by omega)
theorem rr_map (f : Nat → RG) (n j : Nat) (h : j < n) : rr ((List.range n).map f) j = f j := by
 simp [rr, rd_T46, List.getD_eq_getElem?_getD, h]
end
end Go.Proofs.Ytolmjhpapidmhaa.P
end
section
namespace Go.Proofs.Ytolmjhpapidmhaa.P
open Go.RowKit Go.Proofs.YtolmjhpapidmhaaW.PrintWords Go.Proofs.YtolmjhpapidmhaaW.PrintLast Go.Proofs.YtolmjhpapidmhaaW.PrintMore Go.Proofs.YtolmjhpapidmhaaH Go.Proofs.FlowTree
open Classical
section
variable {l : List PI}
def Done (l : List PI) (r : List RG) (p : Nat) : Prop := kidsAt l l.length p ≠ [] → (sL l r p ≤ lo9 r p ∧ hi9 r p ≤ sH l r p + loP l p) ∧
 ∀ k ∈ kidsAt l l.length p, lo9 r p - loP l p - (sH l r p - hi9 r k) ≤ lo9 r k ∧ hi9 r k ≤ hi9 r p - (sL l r p - lo9 r k)
structure Narrow (l : List PI) (r e : List RG) : Prop where
 len : e.length = l.length
 rng : ∀ j, j < l.length → lo9 r j ≤ lo9 e j ∧ hi9 e j ≤ hi9 r j
 sol : ∀ x, Sol (netT l) (lo9 r) (hi9 r) x → Sol (netT l) (lo9 e) (hi9 e) x
theorem Narrow.refl {r : List RG} (h : r.length = l.length) : Narrow l r r := ⟨h, fun _ _ => ⟨Int.le_refl _, Int.le_refl _⟩, fun _ hx => hx⟩
theorem Narrow.trans {r e f : List RG} (h : Narrow l r e) (h' : Narrow l e f) : Narrow l r f :=
 ⟨h'.len, fun j hj => by have := h.rng j hj; have := h'.rng j hj; omega, fun x hx => h'.sol x (h.sol x hx)⟩
def Dead (l : List PI) (e : List RG) : Prop := ∃ j, j < l.length ∧ hi9 e j < lo9 e j
theorem vol_not_dead {e : List RG} (h : Vol l.length (lo9 e) (hi9 e)) : ¬ Dead l e := fun ⟨j, hj, hd⟩ => by have := h j hj; omega
theorem dead_no_sol {e : List RG} (h : Dead l e) : ¬ ∃ x, Sol (netT l) (lo9 e) (hi9 e) x := fun ⟨x, hx⟩ => by
 obtain ⟨j, hj, hd⟩ := h
 have := hx.1 j hj
 omega
theorem eq_step (hok : okL l) (hn : l.length ≤ 200) {r : List RG} (hr : r.length = l.length) (hv : Vol l.length (lo9 r) (hi9 r)) {i : Nat} (hi : i < l.length) (hne : kidsAt l l.length i ≠ []) :
  Narrow l r ((List.range l.length).map (eqAt l r i)) ∧ (Dead l ((List.range l.length).map (eqAt l r i)) ∨ Vol l.length (lo9 ((List.range l.length).map (eqAt l r i))) (hi9 ((List.range l.length).map (eqAt l r i)))) ∧
   (((List.range l.length).map (eqAt l r i)) = r → Done l r i) := by
 have hT := netT_ok hok
 have hvi := hv i hi
 have hlo := (hok i hi).2.2.1
 have hat : ∀ j, j < l.length → rr ((List.range l.length).map (eqAt l r i)) j = eqAt l r i j := fun j hj => rr_map _ _ j hj
 obtain ⟨e, he⟩ : ∃ e, e = (List.range l.length).map (eqAt l r i) := ⟨_, rfl⟩
 rw [← he] at hat ⊢
 have hlen : e.length = l.length := by rw [he, List.length_map, List.length_range]
 have hkid : ∀ k ∈ kidsAt l l.length i, i < k ∧ k < l.length := fun k hk' => hT.lt i k hk'
 have hkid' : ∀ k, k < l.length → (i < k ∧ abP l k = idP l i) → k ∈ kidsAt l l.length i := fun k hk h => kidsAt_mem.2 ⟨hk, h.1, h.2⟩
 have hown : lo9 e i = ownA l r i ∧ hi9 e i = ownB l r i := by
  have := hat i hi
  unfold eqAt at this
  rw [if_pos rfl] at this
  exact ⟨by unfold lo9; rw [this], by unfold hi9; rw [this]⟩
 have hk : ∀ k ∈ kidsAt l l.length i, lo9 e k = max (lo9 r k) (ownA l r i - loP l i - (sH l r i - hi9 r k)) ∧ hi9 e k = min (hi9 r k) (ownB l r i - (sL l r i - lo9 r k)) := by
  intro k hk'
  have hm := kidsAt_mem.1 hk'
  have := hat k (hkid k hk').2
  unfold eqAt at this
  rw [if_neg (by omega), if_pos ⟨hm.2.1, hm.2.2⟩] at this
  exact ⟨by unfold lo9; rw [this]; rfl, by unfold hi9; rw [this]; rfl⟩
 have hsame : ∀ j, j < l.length → j ≠ i → j ∉ kidsAt l l.length i → lo9 e j = lo9 r j ∧ hi9 e j = hi9 r j := by
  intro j hj h1 h2
  have := hat j hj
  unfold eqAt at this
  rw [if_neg h1, if_neg (fun h => h2 (hkid' j hj h))] at this
  exact ⟨by unfold lo9; rw [this], by unfold hi9; rw [this]⟩
 have hsplit : ∀ k ∈ kidsAt l l.length i, ∃ a b, sL l r i = lo9 r k + sm (lo9 r) (a ++ b) ∧ sH l r i = hi9 r k + sm (hi9 r) (a ++ b) ∧ (∀ x, sm x (kidsAt l l.length i) = x k + sm x (a ++ b)) ∧ (∀ q ∈ a ++ b, q ∈ kidsAt l l.length i) := by
  intro k hk'
  obtain ⟨a, b, hab, _⟩ := sm_split (lo9 r) hk'
  have hx : ∀ x : Nat → Int, sm x (kidsAt l l.length i) = x k + sm x (a ++ b) := fun x => by rw [hab, sm_append, sm_append, sm_cons]; omega
  refine ⟨a, b, hx _, hx _, hx, fun q hq => ?_⟩
  rw [hab]
  rcases List.mem_append.1 hq with h' | h'
  ·exact List.mem_append.2 (.inl h')
  ·exact List.mem_append.2 (.inr (List.mem_cons_of_mem _ h'))
 have hnar : Narrow l r e := by
  refine ⟨hlen, fun j hj => ?_, fun x hx => ⟨fun j hj => ?_, hx.2⟩⟩
  ·by_cases h1 : j = i
   ·subst h1
    rw [hown.1, hown.2]
    unfold ownA ownB
    omega
   ·by_cases h2 : j ∈ kidsAt l l.length i
    ·have := hk j h2; omega
    ·have := hsame j hj h1 h2; omega
  ·have hxj := hx.1 j hj
   have hxi := hx.1 i hi
   have h4 := hx.2 i hi hne
   simp only [netT] at h4
   have l1 : sL l r i ≤ sm x (kidsAt l l.length i) := sm_le (fun q hq => (hx.1 q (hkid q hq).2).1)
   have l2 : sm x (kidsAt l l.length i) ≤ sH l r i := sm_le (fun q hq => (hx.1 q (hkid q hq).2).2)
   have ho : ownA l r i ≤ x i ∧ x i ≤ ownB l r i := by unfold ownA ownB; omega
   by_cases h1 : j = i
   ·subst h1
    rw [hown.1, hown.2]
    exact ho
   ·by_cases h2 : j ∈ kidsAt l l.length i
    ·obtain ⟨a, b, e1, e2, e3, hq⟩ := hsplit j h2
     have e4 := e3 x
     have m1 : sm (lo9 r) (a ++ b) ≤ sm x (a ++ b) := sm_le (fun q h => (hx.1 q (hkid q (hq q h)).2).1)
     have m2 : sm x (a ++ b) ≤ sm (hi9 r) (a ++ b) := sm_le (fun q h => (hx.1 q (hkid q (hq q h)).2).2)
     have := hk j h2
     omega
    ·have := hsame j hj h1 h2; omega
 refine ⟨hnar, ?_, fun hee => ?_⟩
 ·by_cases hd : ownA l r i ≤ ownB l r i
  ·refine .inr (fun j hj => ?_)
   have hvj := hv j hj
   have hoA : lo9 r i ≤ ownA l r i ∧ sL l r i ≤ ownA l r i := by unfold ownA; omega
   have hoB : ownB l r i ≤ hi9 r i ∧ ownB l r i ≤ sH l r i + loP l i := by unfold ownB; omega
   by_cases h1 : j = i
   ·subst h1
    rw [hown.1, hown.2]
    omega
   ·by_cases h2 : j ∈ kidsAt l l.length i
    ·obtain ⟨a, b, e1, e2, e3, hq⟩ := hsplit j h2
     have m1 : sm (lo9 r) (a ++ b) ≤ sm (hi9 r) (a ++ b) := sm_le (fun q h => (hv q (hkid q (hq q h)).2).2.1)
     have := hk j h2
     omega
    ·have := hsame j hj h1 h2; omega
  ·exact .inl ⟨i, hi, by rw [hown.1, hown.2]; omega⟩
 ·intro _
  have h1 : lo9 r i = ownA l r i ∧ hi9 r i = ownB l r i := by rw [← hown.1, ← hown.2, hee]; exact ⟨rfl, rfl⟩
  refine ⟨?_, fun k hk' => ?_⟩
  ·unfold ownA ownB at h1
   omega
  ·have h2 := hk k hk'
   rw [hee] at h2
   omega
structure OnceAt (l : List PI) (r : List RG) (m : Nat) (e : List RG) : Prop where
 nar : Narrow l r e
 now : Dead l e ∨ Vol l.length (lo9 e) (hi9 e)
 fix : Vol l.length (lo9 e) (hi9 e) → e = r → ∀ p, p < m → Done l r p
theorem nil_len (l : List PI) (p : Nat) (h : kidsAt l l.length p = []) : ∀ r, Done l r p := fun _ hc => absurd h hc
theorem once_dead (hn : l.length ≤ 200) {r : List RG} (hr : r.length = l.length) (hd : Dead l r) : ∀ m, m ≤ l.length → Ev (fun k => cohousingref28_once.l0 k l r ((m : Int) - 1)) r := by
 intro m
 induction m with
 | zero =>
  intro _
  have h1 : ¬ (((0 : Nat) : Int) - 1 ≥ 0) := by omega
  refine Ev.step ?_
  simp only [cohousingref28_once.l0, h1, if_false]
  exact Ev.pure _
 | succ m ih =>
  intro hm
  have e : ((m + 1 : Nat) : Int) - 1 = (m : Int) := by omega
  have h1 : ((m : Int) ≥ 0) := by omega
  have e2 : wrap64 ((m : Int) - 1) = (m : Int) - 1 := wrap_id (by omega) (by omega)
  rw [e]
  refine Ev.step ?_
  simp only [cohousingref28_once.l0, h1, if_true, e2]
  refine Ev.bnd (below_f' l hn m (by omega)) ?_
  have hem := empty_f r (by omega)
  rw [decide_eq_true (show ∃ j, j < r.length ∧ (rr r j).f1 < (rr r j).f0 from by
   obtain ⟨j, hj, h⟩ := hd
   exact ⟨j, by omega, h⟩)] at hem
  by_cases hc : (((kidsAt l l.length m).map Int.ofNat).length : Int) > 0
  ·simp only [hc, if_true]
   refine Ev.bnd hem ?_
   simp only [if_true]
   exact ih (by omega)
  ·simp only [hc, if_false]
   exact ih (by omega)
theorem once_l0 (hok : okL l) (hn : l.length ≤ 200) : ∀ m, m ≤ l.length → ∀ r : List RG, r.length = l.length → Vol l.length (lo9 r) (hi9 r) → ∃ e, Ev (fun k => cohousingref28_once.l0 k l r ((m : Int) - 1)) e ∧ OnceAt l r m e := by
 intro m
 induction m with
 | zero =>
  intro _ r hr hv
  refine ⟨r, ?_, ⟨Narrow.refl hr, .inr hv, fun _ _ p hp => absurd hp (Nat.not_lt_zero _)⟩⟩
  have h1 : ¬ (((0 : Nat) : Int) - 1 ≥ 0) := by omega
  refine Ev.step ?_
  simp only [cohousingref28_once.l0, h1, if_false]
  exact Ev.pure _
 | succ m ih =>
  intro hm r hr hv
  have e : ((m + 1 : Nat) : Int) - 1 = (m : Int) := by omega
  have h1 : ((m : Int) ≥ 0) := by omega
  have e2 : wrap64 ((m : Int) - 1) = (m : Int) - 1 := wrap_id (by omega) (by omega)
  have hem := empty_f r (by omega)
  rw [decide_eq_false (show ¬ ∃ j, j < r.length ∧ (rr r j).f1 < (rr r j).f0 from by
   rintro ⟨j, hj, h⟩
   exact vol_not_dead hv ⟨j, by omega, h⟩)] at hem
  rw [e]
  by_cases hne : kidsAt l l.length m = []
  ·obtain ⟨e', he', ho⟩ := ih (by omega) r hr hv
   refine ⟨e', Ev.step ?_, ⟨ho.nar, ho.now, fun hv' hee p hp => ?_⟩⟩
   ·simp only [cohousingref28_once.l0, h1, if_true, e2]
    refine Ev.bnd (below_f' l hn m (by omega)) ?_
    have hc : ¬ (((kidsAt l l.length m).map Int.ofNat).length : Int) > 0 := by rw [hne]; simp
    simp only [hc, if_false]
    exact he'
   ·by_cases h' : p < m
    ·exact ho.fix hv' hee p h'
    ·rw [show p = m by omega]; exact nil_len l m hne r
  ·have hst := eq_step hok hn hr hv (i := m) (by omega) hne
   obtain ⟨q, hq⟩ : ∃ q, q = (List.range l.length).map (eqAt l r m) := ⟨_, rfl⟩
   rw [← hq] at hst
   have hqf := eq_f hok hn hr hv (i := m) (by omega)
   rw [← hq] at hqf
   have hrest : ∃ e', Ev (fun k => cohousingref28_once.l0 k l q ((m : Int) - 1)) e' ∧ OnceAt l q m e' := by
    rcases hst.2.1 with hd | hv'
    ·exact ⟨q, once_dead hn hst.1.len hd m (by omega), Narrow.refl hst.1.len, .inl hd, fun hv2 _ => absurd hd (vol_not_dead hv2)⟩
    ·exact ih (by omega) q hst.1.len hv'
   obtain ⟨e', he', ho⟩ := hrest
   refine ⟨e', Ev.step ?_, ⟨hst.1.trans ho.nar, ho.now, fun hv' hee p hp => ?_⟩⟩
   ·simp only [cohousingref28_once.l0, h1, if_true, e2]
    refine Ev.bnd (below_f' l hn m (by omega)) ?_
    have hc : (((kidsAt l l.length m).map Int.ofNat).length : Int) > 0 := by
     have := List.length_pos_iff.2 hne
     rw [List.length_map]; omega
    simp only [hc, if_true]
    refine Ev.bnd hem ?_
    simp only [Bool.false_eq_true, if_false]
    exact Ev.bnd hqf he'
   ·have hqr : q = r := by
     apply rr_ext (by rw [hst.1.len, hr])
     intro j hj
     rw [hst.1.len] at hj
     have a1 := hst.1.rng j hj
     have a2 := ho.nar.rng j hj
     rw [hee] at a2
     have b1 : lo9 q j = lo9 r j := by omega
     have b2 : hi9 q j = hi9 r j := by omega
     unfold lo9 at b1
     unfold hi9 at b2
     cases h1 : rr q j
     cases h2 : rr r j
     rw [h1, h2] at b1 b2
     simp only at b1 b2
     rw [b1, b2]
    by_cases h' : p < m
    ·have := ho.fix hv' (hee.trans hqr.symm) p h'
     rw [hqr] at this
     exact this
    ·rw [show p = m by omega]
     exact hst.2.2 hqr
theorem once_f (hok : okL l) (hn : l.length ≤ 200) (r : List RG) (hr : r.length = l.length) (hv : Vol l.length (lo9 r) (hi9 r)) : ∃ e, Ev (fun k => cohousingref28_once.f k l r) e ∧ OnceAt l r l.length e := by
 obtain ⟨e, he, ho⟩ := once_l0 hok hn l.length (Nat.le_refl _) r hr hv
 refine ⟨e, ?_, ho⟩
 unfold cohousingref28_once.f
 rw [wrap_id (by omega) (by omega)]
 exact he
def wide (n : Nat) (e : List RG) : Nat := (List.range n).foldl (fun s j => s + (hi9 e j - lo9 e j).toNat) 0
theorem wide_succ (n : Nat) (e : List RG) : wide (n + 1) e = wide n e + (hi9 e n - lo9 e n).toNat := by
 unfold wide
 rw [List.range_succ, List.foldl_append]
 rfl
theorem wide_le (r e : List RG) : ∀ n, (∀ j, j < n → lo9 r j ≤ lo9 e j ∧ hi9 e j ≤ hi9 r j) → wide n e ≤ wide n r := by
 intro n
 induction n with
 | zero => intro _; exact Nat.le_refl _
 | succ n ih =>
  intro h
  rw [wide_succ, wide_succ]
  have h1 := ih (fun j hj => h j (by omega))
  have h2 := h n (by omega)
  omega
theorem wide_lt (r e : List RG) : ∀ n, (∀ j, j < n → lo9 r j ≤ lo9 e j ∧ hi9 e j ≤ hi9 r j ∧ lo9 e j ≤ hi9 e j) → (∃ j, j < n ∧ (lo9 r j ≠ lo9 e j ∨ hi9 r j ≠ hi9 e j)) → wide n e < wide n r := by
 intro n
 induction n with
 | zero => rintro _ ⟨j, hj, _⟩; omega
 | succ n ih =>
  rintro h ⟨j, hj, hd⟩
  rw [wide_succ, wide_succ]
  have h2 := h n (by omega)
  by_cases hjn : j < n
  ·have h1 := ih (fun j hj => h j (by omega)) ⟨j, hjn, hd⟩
   omega
  ·have e1 : j = n := by omega
   subst e1
   have h1 := wide_le r e j (fun j hj => by have := h j (by omega); omega)
   omega
theorem bounds_l0 (hok : okL l) (hn : l.length ≤ 200) : ∀ (μ : Nat) (r : List RG), wide l.length r = μ → r.length = l.length → Vol l.length (lo9 r) (hi9 r) →
  (Ev (fun k => cohousingref28_bounds.l0 k l r) ([], false) ∧ ¬ ∃ x, Sol (netT l) (lo9 r) (hi9 r) x) ∨
  (∃ d, Ev (fun k => cohousingref28_bounds.l0 k l r) (d, true) ∧ Narrow l r d ∧ Vol l.length (lo9 d) (hi9 d) ∧ ∀ p, p < l.length → Done l d p) := by
 intro μ
 induction μ using Nat.strongRecOn with
 | ind μ ih =>
  intro r hμ hr hv
  obtain ⟨e, he, ho⟩ := once_f hok hn r hr hv
  have hem := empty_f e (by have := ho.nar.len; omega)
  have hsf := same_f e r (by have := ho.nar.len; omega)
  rcases ho.now with hd | hv'
  ·refine .inl ⟨Ev.step ?_, fun ⟨x, hx⟩ => dead_no_sol hd ⟨x, ho.nar.sol x hx⟩⟩
   rw [decide_eq_true (show ∃ j, j < e.length ∧ (rr e j).f1 < (rr e j).f0 from by
    obtain ⟨j, hj, h⟩ := hd
    exact ⟨j, by rw [ho.nar.len]; exact hj, h⟩)] at hem
   simp only [cohousingref28_bounds.l0]
   refine Ev.bnd he (Ev.bnd hem ?_)
   simp only [if_true]
   exact Ev.pure _
  ·rw [decide_eq_false (show ¬ ∃ j, j < e.length ∧ (rr e j).f1 < (rr e j).f0 from by
    rintro ⟨j, hj, h⟩
    exact vol_not_dead hv' ⟨j, by rw [← ho.nar.len]; exact hj, h⟩)] at hem
   by_cases hee : e = r
   ·rw [decide_eq_true hee] at hsf
    refine .inr ⟨e, Ev.step ?_, ho.nar, hv', fun p hp => by rw [hee]; exact ho.fix hv' hee p hp⟩
    simp only [cohousingref28_bounds.l0]
    refine Ev.bnd he (Ev.bnd hem ?_)
    simp only [Bool.false_eq_true, if_false]
    refine Ev.bnd hsf ?_
    simp only [if_true]
    exact Ev.pure _
   ·rw [decide_eq_false hee] at hsf
    have hlt : wide l.length e < μ := by
     rw [← hμ]
     refine wide_lt r e l.length (fun j hj => by have := ho.nar.rng j hj; have := hv' j hj; omega) ?_
     by_cases hex : ∃ j, j < l.length ∧ (lo9 r j ≠ lo9 e j ∨ hi9 r j ≠ hi9 e j)
     ·exact hex
     ·refine absurd (rr_ext (by rw [ho.nar.len, hr]) (fun j hj => ?_)) hee
      rw [ho.nar.len] at hj
      have b1 : lo9 e j = lo9 r j := by
       by_cases h : lo9 r j = lo9 e j
       ·exact h.symm
       ·exact absurd ⟨j, hj, .inl h⟩ hex
      have b2 : hi9 e j = hi9 r j := by
       by_cases h : hi9 r j = hi9 e j
       ·exact h.symm
       ·exact absurd ⟨j, hj, .inr h⟩ hex
      unfold lo9 at b1
      unfold hi9 at b2
      cases h1 : rr e j
      cases h2 : rr r j
      rw [h1, h2] at b1 b2
      simp only at b1 b2
      rw [b1, b2]
    have hrest : ∀ R, Ev (fun k => cohousingref28_bounds.l0 k l e) R → Ev (fun k => cohousingref28_bounds.l0 k l r) R := fun R hR => by
     refine Ev.step ?_
     simp only [cohousingref28_bounds.l0]
     refine Ev.bnd he (Ev.bnd hem ?_)
     simp only [Bool.false_eq_true, if_false]
     refine Ev.bnd hsf ?_
     simp only [Bool.false_eq_true, if_false]
     exact hR
    rcases ih (wide l.length e) hlt e rfl ho.nar.len hv' with ⟨h1, h2⟩ | ⟨d, h1, h2, h3, h4⟩
    ·exact .inl ⟨hrest _ h1, fun ⟨x, hx⟩ => h2 ⟨x, ho.nar.sol x hx⟩⟩
    ·exact .inr ⟨d, hrest _ h1, ho.nar.trans h2, h3, h4⟩
end
end Go.Proofs.Ytolmjhpapidmhaa.P
end
section
namespace Go.Proofs.Ytolmjhpapidmhaa.P
open Go.RowKit Go.Proofs.YtolmjhpapidmhaaW.PrintWords Go.Proofs.YtolmjhpapidmhaaW.PrintLast Go.Proofs.YtolmjhpapidmhaaW.PrintMore Go.Proofs.YtolmjhpapidmhaaH Go.Proofs.FlowTree
open Classical
theorem Lo_map (r : List RG) : Lo (r.map toI) = lo9 r := funext (fun i => Lo_toI r i)
theorem Hi_map (r : List RG) : Hi (r.map toI) = hi9 r := funext (fun i => Hi_toI r i)
theorem rr_toR (d : List IV) (i : Nat) : rr (d.map toR) i = toR (rv d i) := by
 simp only [rv, rr, rd_T74, rd_T46, Int.toNat_natCast, List.getD_eq_getElem?_getD, List.getElem?_map]
 cases d[i]? <;> rfl
theorem belongs_iff (n : Nat) (r : List RG) : belongsB n r = true ↔ r.length = n ∧ Vol n (lo9 r) (hi9 r) := by
 unfold belongsB
 rw [Bool.and_eq_true, decide_eq_true_eq, Bool.not_eq_true', List.any_eq_false]
 constructor
 ·rintro ⟨h1, h2⟩
  refine ⟨h1, fun j hj => ?_⟩
  have hj' : j < r.length := by omega
  have := h2 r[j] (List.getElem_mem hj')
  simp only [oddR, Bool.not_eq_true, decide_eq_false_iff_not, Decidable.not_not] at this
  have e : rr r j = r[j] := by simp [rr, rd_T46, List.getD_eq_getElem?_getD, hj']
  unfold lo9 hi9
  rw [e]
  omega
 ·rintro ⟨h1, h2⟩
  refine ⟨h1, fun x hx => ?_⟩
  obtain ⟨j, hj, rfl⟩ := List.mem_iff_getElem.1 hx
  have := h2 j (by omega)
  have e : rr r j = r[j] := by simp [rr, rd_T46, List.getD_eq_getElem?_getD, hj]
  unfold lo9 hi9 at this
  rw [e] at this
  simp only [oddR, Bool.not_eq_true, decide_eq_false_iff_not, Decidable.not_not]
  omega
structure Good (l : List PI) (r : List RG) : Prop where
 ok : okL l
 n : l.length ≤ 200
 len : r.length = l.length
 vol : Vol l.length (lo9 r) (hi9 r)
theorem good_iff (l : List PI) (r : List RG) : Good l r ↔ (okL l ∧ l.length ≤ 200) ∧ belongsB l.length r = true := by
 rw [belongs_iff]
 exact ⟨fun h => ⟨⟨h.ok, h.n⟩, h.len, h.vol⟩, fun h => ⟨h.1.1, h.1.2, h.2.1, h.2.2⟩⟩
theorem netOk_some {l : List PI} (h : okL l) (hn : l.length ≤ 200) : ∃ kids, netOk l = some kids ∧ ∀ j, j < l.length → rdK kids j = (kidsAt l l.length j).map Int.ofNat := by
 obtain ⟨kids, hk⟩ := openK_of h
 exact ⟨kids, by unfold netOk; rw [if_pos hn, hk], (openK_some hk).2⟩
theorem netOk_none {l : List PI} (h : ¬ (okL l ∧ l.length ≤ 200)) : netOk l = none := by
 unfold netOk
 by_cases hn : l.length ≤ 200
 ·rw [if_pos hn]
  cases ho : openK l with
  | none => rfl
  | some kids => exact absurd ⟨(openK_some ho).1, hn⟩ h
 ·rw [if_neg hn]
theorem exact_uniq {l : List PI} {lo hi : Nat → Int} {d : List IV} (h : Exact l lo hi d) {e : List RG} (he : e.length = l.length) (hs : ∀ x, Sol (netT l) lo hi x → ∀ j, j < l.length → lo9 e j ≤ x j ∧ x j ≤ hi9 e j)
  (hv : Vol l.length (lo9 e) (hi9 e)) (hh : ∀ j, j < l.length → ∀ v, lo9 e j ≤ v → v ≤ hi9 e j → ∃ x, Sol (netT l) lo hi x ∧ x j = v) : e = d.map toR := by
 apply rr_ext (by rw [he, List.length_map, h.len])
 intro j hj
 rw [he] at hj
 have hd := h.rng j hj
 have hvj := hv j hj
 obtain ⟨x1, s1, e1⟩ := h.had j hj (Lo d j) (by omega) (by omega)
 obtain ⟨x2, s2, e2⟩ := h.had j hj (Hi d j) (by omega) (by omega)
 obtain ⟨x3, s3, e3⟩ := hh j hj (lo9 e j) (by omega) (by omega)
 obtain ⟨x4, s4, e4⟩ := hh j hj (hi9 e j) (by omega) (by omega)
 have a1 := hs x1 s1 j hj
 have a2 := hs x2 s2 j hj
 have a3 := h.sol x3 s3 j hj
 have a4 := h.sol x4 s4 j hj
 rw [rr_toR]
 have b1 : (rr e j).f0 = (rv d j).f0 := by unfold lo9 at *; unfold Lo at *; unfold hi9 at *; unfold Hi at *; omega
 have b2 : (rr e j).f1 = (rv d j).f1 := by unfold lo9 at *; unfold Lo at *; unfold hi9 at *; unfold Hi at *; omega
 unfold toR
 rw [← b1, ← b2]
section
variable {l : List PI} {kids : List (List Int)}
theorem ref_bounds (hok : okL l) (hn : l.length ≤ 200) (hk : ∀ j, j < l.length → rdK kids j = (kidsAt l l.length j).map Int.ofNat) {r : List RG} (hr : r.length = l.length) (hv : Vol l.length (lo9 r) (hi9 r)) :
  ((boundsF l kids (r.map toI)).1 = false ∧ (¬ ∃ x, Sol (netT l) (lo9 r) (hi9 r) x) ∧ Ev (fun k => cohousingref28_bounds.f k l r) ([], false)) ∨
  ((boundsF l kids (r.map toI)).1 = true ∧ Exact l (lo9 r) (hi9 r) (boundsF l kids (r.map toI)).2 ∧ Ev (fun k => cohousingref28_bounds.f k l r) ((boundsF l kids (r.map toI)).2.map toR, true)) := by
 have hb := boundsF_spec hok hn hk (r := r.map toI) (by rw [List.length_map, hr]) (by rw [Lo_map, Hi_map]; exact hv)
 rw [Lo_map, Hi_map] at hb
 have href := bounds_l0 hok hn (wide l.length r) r rfl hr hv
 rcases hb with ⟨b1, b2⟩ | ⟨b1, b2⟩
 ·refine .inl ⟨b1, b2, ?_⟩
  rcases href with ⟨h1, _⟩ | ⟨d, h1, h2, h3, h4⟩
  ·exact h1
  ·exfalso
   by_cases hz : 0 < l.length
   ·obtain ⟨x, hx, _⟩ := exact (netT l) (netT_ok hok) (lo9 d) (hi9 d) (lo9 d) (hi9 d) (fun i hi => (h3 i hi).2.1) (fun i hi hne => (h4 i hi hne).1) (fun i hi => ⟨Int.le_refl _, (h3 i hi).2.1, Int.le_refl _⟩)
     (fun i hi k hk' => (h4 i hi (fun hh => by simp only [netT] at hk'; rw [hh] at hk'; cases hk')).2 k hk') 0 hz (lo9 d 0) (Int.le_refl _) (h3 0 hz).2.1
    exact b2 ⟨x, fun i hi => by have := hx.1 i hi; have := h2.rng i hi; omega, hx.2⟩
   ·exact b2 ⟨fun _ => 0, fun i hi => absurd hi (by simp only [netT]; omega), fun i hi => absurd hi (by simp only [netT]; omega)⟩
 ·refine .inr ⟨b1, b2, ?_⟩
  rcases href with ⟨_, h2⟩ | ⟨d, h1, h2, h3, h4⟩
  ·exfalso
   by_cases hz : 0 < l.length
   ·obtain ⟨x, hx, _⟩ := b2.had 0 hz (Lo _ 0) (Int.le_refl _) (b2.rng 0 hz).2.1
    exact h2 ⟨x, hx⟩
   ·exact h2 ⟨fun _ => 0, fun i hi => absurd hi (by simp only [netT]; omega), fun i hi => absurd hi (by simp only [netT]; omega)⟩
  ·have e := exact_uniq b2 (e := d) h2.len (fun x hx => (h2.sol x hx).1) h3 (fun j hj v hv1 hv2 => by
    obtain ⟨x, hx, hxv⟩ := exact (netT l) (netT_ok hok) (lo9 d) (hi9 d) (lo9 d) (hi9 d) (fun i hi => (h3 i hi).2.1) (fun i hi hne => (h4 i hi hne).1) (fun i hi => ⟨Int.le_refl _, (h3 i hi).2.1, Int.le_refl _⟩)
     (fun i hi k hk' => (h4 i hi (fun hh => by simp only [netT] at hk'; rw [hh] at hk'; cases hk')).2 k hk') j hj v hv1 hv2
    exact ⟨x, ⟨fun i hi => by have := hx.1 i hi; have := h2.rng i hi; omega, hx.2⟩, hxv⟩)
   rw [← e]
   exact h1
end
inductive BoundsIs (l : List PI) (r : List RG) : List RG × Int → Prop
 | arg : ¬ Good l r → BoundsIs l r ([], 1)
 | flow : Good l r → (¬ ∃ x, Sol (netT l) (lo9 r) (hi9 r) x) → BoundsIs l r ([], 30)
 | ok (d : List IV) : Good l r → Exact l (lo9 r) (hi9 r) d → BoundsIs l r (d.map toR, 0)
theorem boundsR_is (l : List PI) (r : List RG) : BoundsIs l r (boundsR l r) := by
 unfold boundsR
 by_cases hg : Good l r
 ·obtain ⟨kids, h1, h2⟩ := netOk_some hg.ok hg.n
  rw [h1]
  simp only []
  rw [if_pos ((good_iff l r).1 hg).2]
  rcases ref_bounds hg.ok hg.n h2 hg.len hg.vol with ⟨b1, b2, _⟩ | ⟨b1, b2, _⟩
  ·rw [if_neg (by rw [b1]; decide)]
   exact .flow hg b2
  ·rw [if_pos b1]
   exact .ok _ hg b2
 ·have hno := fun h => hg ((good_iff l r).2 h)
  by_cases hv : okL l ∧ l.length ≤ 200
  ·obtain ⟨kids, h1, h2⟩ := netOk_some hv.1 hv.2
   rw [h1]
   simp only []
   rw [if_neg (fun h => hno ⟨hv, h⟩)]
   exact .arg hg
  ·rw [netOk_none hv]
   exact .arg hg
end Go.Proofs.Ytolmjhpapidmhaa.P
end
