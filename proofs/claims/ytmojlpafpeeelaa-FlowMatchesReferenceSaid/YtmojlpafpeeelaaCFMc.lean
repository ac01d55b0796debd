/- Part 3 of the proof of FlowMatchesReference: words and walks that the last part joins. -/
import Derived.ArgAppend
import Derived.Below
import Derived.BigQuiet
import Derived.ChangeOld
import Derived.ChangeSlices
import Derived.Deep.AppendLies
import Derived.Deep.CutBlock
import Derived.Deep.DeepCutAuto
import Derived.Deep.Draws
import Derived.Deep.LoopGhost
import Derived.Deep.OwnRows
import Derived.Deep.QuietTactic
import Derived.Deep.RegionHeld3
import Derived.Deep.Slices
import Derived.KernelRfl
import Derived.Laws.BitsLemmas
import Derived.Laws.BytesArg
import Derived.Laws.IdiomCopy
import Derived.Laws.MakeOwn
import Derived.Laws.OwnMore
import Derived.Laws.Rows
import Derived.Laws.Slices
import Derived.Laws.StructEq
import Derived.Lib.AppendStr
import Derived.Lib.ConvBytes
import Derived.LoopIn
import Derived.LoopNIn
import Derived.Maps.AppendAt
import Derived.Maps.Own
import Derived.OpenShut
import Derived.OrdersHeld
import Derived.OwnWalk
import Derived.OwnWalkIn
import Derived.ProofKit
import Derived.RangeFuncBound
import Derived.RangeFuncCalls
import Derived.RangeFuncLeaves
import Derived.RangeFuncNested
import Derived.RowKit
import Derived.RowKit3
import Derived.ShutString
import Derived.SizedLaws
import Derived.Tactics
import Derived.TacticsInMore
import Derived.Test.YtmojlpafpeeelaaProg
import Derived.WalkKit
import Derived.WideLaws
import Derived.Test.YtmojlpafpeeelaaCFMb
set_option linter.unusedVariables false
set_option linter.unusedSimpArgs false
section
namespace Go.Proofs.Ytmojlpafpeeelaa.P
open Go.RowKit Go.Proofs.YtmojlpafpeeelaaW.PrintWords Go.Proofs.YtmojlpafpeeelaaW.PrintLast Go.Proofs.YtmojlpafpeeelaaW.PrintMore
attribute [local go_sem] max2_int min2_int max_two min_two max_three min_three max_four min_four
set_option linter.unusedVariables false
set_option linter.unusedSimpArgs false
def cohousinglaw28_head.j0 : Nat → List (S44) → List (S39) → List (S39) → Bool → Option (Bool)
 | 0, _, _, _, _ => none
 | k + 1, x1, x2, x4, x12 => if x12 = true then ((cohousingref28_Same.f k x2 (([(⟨10, 10⟩ : S39), (⟨3, 5⟩ : S39), (⟨3, 7⟩ : S39)] : List (S39)))).bind fun t171 => (if t171 = true then ((cohousingref28_Same.f k x4 (([(⟨7, 11⟩ : S39), (⟨3, 5⟩ : S39), (⟨4, 4⟩ : S39)] : List (S39)))).bind fun t175 => (if t175 = true then ((flow_Valid.f x1).bind fun t176 => (if t176 = true then ((flow_Valid.f (([(⟨1, 1, 0⟩ : S44)] : List (S44)))).bind fun t180 => (some (!t180))) else (some false))) else (some false))) else (some false))) else (some false)
def cohousinglaw28_head.f (k : Nat)  : Option (Bool) := (some (([(⟨1, 0, 2⟩ : S44), (⟨2, 1, 0⟩ : S44), (⟨3, 1, 0⟩ : S44)] : List (S44)) : List (S44))).bind fun y125 => ((flow_Bounds.f y125 (([(⟨10, 10⟩ : S39), (⟨3, 5⟩ : S39), (⟨0, 100⟩ : S39)] : List (S39)))).bind fun bt131 => ((flow_Bounds.f y125 (([(⟨0, 100⟩ : S39), (⟨3, 5⟩ : S39), (⟨4, 4⟩ : S39)] : List (S39)))).bind fun bt138 => ((flow_Bounds.f y125 (([(⟨3, 3⟩ : S39), (⟨3, 5⟩ : S39), (⟨4, 4⟩ : S39)] : List (S39)))).bind fun bt145 => ((flow_State.f y125 (([(⟨10, 10⟩ : S39), (⟨3, 5⟩ : S39), (⟨0, 100⟩ : S39)] : List (S39))) 2 5).bind fun bt152 => ((flow_Consistent.f y125 (([(⟨0, 100⟩ : S39), (⟨3, 5⟩ : S39), (⟨4, 4⟩ : S39)] : List (S39))) (([12, 5, 4] : List Int))).bind fun bt162 => (if bt131.2 = 0 then (if bt138.2 = 0 then (if bt145.2 = 30 then (if bt152.2 = 0 then (if bt162.2 = 0 then (if bt162.1 = true then (cohousinglaw28_head.j0 k y125 bt131.1 bt138.1 false) else ((cohousingref02_Same.f k bt152.1 (([10, 3, 5] : List Int))).bind fun t167 => (cohousinglaw28_head.j0 k y125 bt131.1 bt138.1 t167))) else (cohousinglaw28_head.j0 k y125 bt131.1 bt138.1 false)) else (cohousinglaw28_head.j0 k y125 bt131.1 bt138.1 false)) else (cohousinglaw28_head.j0 k y125 bt131.1 bt138.1 false)) else (cohousinglaw28_head.j0 k y125 bt131.1 bt138.1 false)) else (cohousinglaw28_head.j0 k y125 bt131.1 bt138.1 false)))))))
theorem cohousinglaw28_head.mono_l : ∀ k, (∀ y0 y1 y2 y3, LeO (cohousinglaw28_head.j0 k y0 y1 y2 y3) (cohousinglaw28_head.j0 (k + 1) y0 y1 y2 y3))
 | 0 => fun _ _ _ _ r h => by simp [cohousinglaw28_head.j0] at h
 | k + 1 => by
  have ih0 := cohousinglaw28_head.mono_l k
  ·intro y0 y1 y2 y3
   unfold cohousinglaw28_head.j0
   repeat' first
   | (with_reducible exact ih0 _ _ _ _)
   | (with_reducible exact cohousingref02_Same.mono _ _ _)
   | (with_reducible exact cohousingref28_Same.mono _ _ _)
   | (with_reducible exact LeO.refl _)
   | (with_reducible exact LeO.none _)
   | (with_reducible refine LeO.ite ?_ ?_)
   | (with_reducible refine LeO.bind ?_ (fun _ => ?_))
   | exact ih0 _ _ _ _
   | exact cohousingref02_Same.mono _ _ _
   | exact cohousingref28_Same.mono _ _ _
   | exact LeO.none _
   | refine LeO.ite ?_ ?_
   | refine LeO.bind ?_ (fun _ => ?_)
theorem cohousinglaw28_head.mono : ∀ k, LeO (cohousinglaw28_head.f k ) (cohousinglaw28_head.f (k + 1) ) := by
 intro  k
 have ih0 := cohousinglaw28_head.mono_l k
 unfold cohousinglaw28_head.f
 repeat' first
   | (with_reducible exact ih0 _ _ _ _)
   | (with_reducible exact cohousingref02_Same.mono _ _ _)
   | (with_reducible exact cohousingref28_Same.mono _ _ _)
   | (with_reducible exact LeO.refl _)
   | (with_reducible exact LeO.none _)
   | (with_reducible refine LeO.ite ?_ ?_)
   | (with_reducible refine LeO.bind ?_ (fun _ => ?_))
   | exact ih0 _ _ _ _
   | exact cohousingref02_Same.mono _ _ _
   | exact cohousingref28_Same.mono _ _ _
   | exact LeO.none _
   | refine LeO.ite ?_ ?_
   | refine LeO.bind ?_ (fun _ => ?_)
set_option maxHeartbeats 8000000 in
set_option maxRecDepth 100000 in
theorem cohousinglaw28_head.calls (k : Nat)  (r : Bool) (w : World) (h : cohousinglaw28_head.f k  = some r) :
  Calls Try.prog 10 #[] w fun e w' => e = .returned (.bool r) ∧ Below w.heap.size w w' := by
 have hu44 := Try.underlying44
 have hu39 := Try.underlying39
 have HB := Aside0.mk (Below.refl w.heap.size w)
 have H : ((some (([(⟨1, 0, 2⟩ : S44), (⟨2, 1, 0⟩ : S44), (⟨3, 1, 0⟩ : S44)] : List (S44)) : List (S44))).bind fun y125 => ((flow_Bounds.f y125 (([(⟨10, 10⟩ : S39), (⟨3, 5⟩ : S39), (⟨0, 100⟩ : S39)] : List (S39)))).bind fun bt131 => ((flow_Bounds.f y125 (([(⟨0, 100⟩ : S39), (⟨3, 5⟩ : S39), (⟨4, 4⟩ : S39)] : List (S39)))).bind fun bt138 => ((flow_Bounds.f y125 (([(⟨3, 3⟩ : S39), (⟨3, 5⟩ : S39), (⟨4, 4⟩ : S39)] : List (S39)))).bind fun bt145 => ((flow_State.f y125 (([(⟨10, 10⟩ : S39), (⟨3, 5⟩ : S39), (⟨0, 100⟩ : S39)] : List (S39))) 2 5).bind fun bt152 => ((flow_Consistent.f y125 (([(⟨0, 100⟩ : S39), (⟨3, 5⟩ : S39), (⟨4, 4⟩ : S39)] : List (S39))) (([12, 5, 4] : List Int))).bind fun bt162 => (if bt131.2 = 0 then (if bt138.2 = 0 then (if bt145.2 = 30 then (if bt152.2 = 0 then (if bt162.2 = 0 then (if bt162.1 = true then (cohousinglaw28_head.j0 k y125 bt131.1 bt138.1 false) else ((cohousingref02_Same.f k bt152.1 (([10, 3, 5] : List Int))).bind fun t167 => (cohousinglaw28_head.j0 k y125 bt131.1 bt138.1 t167))) else (cohousinglaw28_head.j0 k y125 bt131.1 bt138.1 false)) else (cohousinglaw28_head.j0 k y125 bt131.1 bt138.1 false)) else (cohousinglaw28_head.j0 k y125 bt131.1 bt138.1 false)) else (cohousinglaw28_head.j0 k y125 bt131.1 bt138.1 false)) else (cohousinglaw28_head.j0 k y125 bt131.1 bt138.1 false)))))))) = some r := h
 clear h
 obtain ⟨y125, hy125⟩ : ∃ y_ : List (S44), y_ = (([(⟨1, 0, 2⟩ : S44), (⟨2, 1, 0⟩ : S44), (⟨3, 1, 0⟩ : S44)] : List (S44))) := ⟨_, rfl⟩
 replace H : ((flow_Bounds.f y125 (([(⟨10, 10⟩ : S39), (⟨3, 5⟩ : S39), (⟨0, 100⟩ : S39)] : List (S39)))).bind fun bt131 => ((flow_Bounds.f y125 (([(⟨0, 100⟩ : S39), (⟨3, 5⟩ : S39), (⟨4, 4⟩ : S39)] : List (S39)))).bind fun bt138 => ((flow_Bounds.f y125 (([(⟨3, 3⟩ : S39), (⟨3, 5⟩ : S39), (⟨4, 4⟩ : S39)] : List (S39)))).bind fun bt145 => ((flow_State.f y125 (([(⟨10, 10⟩ : S39), (⟨3, 5⟩ : S39), (⟨0, 100⟩ : S39)] : List (S39))) 2 5).bind fun bt152 => ((flow_Consistent.f y125 (([(⟨0, 100⟩ : S39), (⟨3, 5⟩ : S39), (⟨4, 4⟩ : S39)] : List (S39))) (([12, 5, 4] : List Int))).bind fun bt162 => (if bt131.2 = 0 then (if bt138.2 = 0 then (if bt145.2 = 30 then (if bt152.2 = 0 then (if bt162.2 = 0 then (if bt162.1 = true then (cohousinglaw28_head.j0 k y125 bt131.1 bt138.1 false) else ((cohousingref02_Same.f k bt152.1 (([10, 3, 5] : List Int))).bind fun t167 => (cohousinglaw28_head.j0 k y125 bt131.1 bt138.1 t167))) else (cohousinglaw28_head.j0 k y125 bt131.1 bt138.1 false)) else (cohousinglaw28_head.j0 k y125 bt131.1 bt138.1 false)) else (cohousinglaw28_head.j0 k y125 bt131.1 bt138.1 false)) else (cohousinglaw28_head.j0 k y125 bt131.1 bt138.1 false)) else (cohousinglaw28_head.j0 k y125 bt131.1 bt138.1 false))))))) = some r := by first | (rw [hy125]; with_reducible exact H) | (have H2_ := (Option.bind_some _ _).symm.trans H; rw [hy125]; with_reducible exact H2_) | (have H2_ := (Option.bind_some _ _).symm.trans H; with_reducible exact H2_) | with_reducible exact H | (rw [hy125]; exact H) | exact H
 have Ny125 := Aside0.mk hy125
 clear hy125
 obtain ⟨y128, hy128⟩ : ∃ y_ : List (S39), y_ = (([(⟨10, 10⟩ : S39), (⟨3, 5⟩ : S39), (⟨0, 100⟩ : S39)] : List (S39))) := ⟨_, rfl⟩
 replace H : ((flow_Bounds.f y125 y128).bind fun bt131 => ((flow_Bounds.f y125 (([(⟨0, 100⟩ : S39), (⟨3, 5⟩ : S39), (⟨4, 4⟩ : S39)] : List (S39)))).bind fun bt138 => ((flow_Bounds.f y125 (([(⟨3, 3⟩ : S39), (⟨3, 5⟩ : S39), (⟨4, 4⟩ : S39)] : List (S39)))).bind fun bt145 => ((flow_State.f y125 (([(⟨10, 10⟩ : S39), (⟨3, 5⟩ : S39), (⟨0, 100⟩ : S39)] : List (S39))) 2 5).bind fun bt152 => ((flow_Consistent.f y125 (([(⟨0, 100⟩ : S39), (⟨3, 5⟩ : S39), (⟨4, 4⟩ : S39)] : List (S39))) (([12, 5, 4] : List Int))).bind fun bt162 => (if bt131.2 = 0 then (if bt138.2 = 0 then (if bt145.2 = 30 then (if bt152.2 = 0 then (if bt162.2 = 0 then (if bt162.1 = true then (cohousinglaw28_head.j0 k y125 bt131.1 bt138.1 false) else ((cohousingref02_Same.f k bt152.1 (([10, 3, 5] : List Int))).bind fun t167 => (cohousinglaw28_head.j0 k y125 bt131.1 bt138.1 t167))) else (cohousinglaw28_head.j0 k y125 bt131.1 bt138.1 false)) else (cohousinglaw28_head.j0 k y125 bt131.1 bt138.1 false)) else (cohousinglaw28_head.j0 k y125 bt131.1 bt138.1 false)) else (cohousinglaw28_head.j0 k y125 bt131.1 bt138.1 false)) else (cohousinglaw28_head.j0 k y125 bt131.1 bt138.1 false))))))) = some r := by first | (rw [hy128]; with_reducible exact H) | (have H2_ := (Option.bind_some _ _).symm.trans H; rw [hy128]; with_reducible exact H2_) | (have H2_ := (Option.bind_some _ _).symm.trans H; with_reducible exact H2_) | with_reducible exact H | (rw [hy128]; exact H) | exact H
 have Ny128 := Aside0.mk hy128
 clear hy128
 replace H := Option.bind_eq_some_iff.mp H
 obtain ⟨⟨t131, t132⟩, A10, H⟩ := H
 replace H : ((flow_Bounds.f y125 (([(⟨0, 100⟩ : S39), (⟨3, 5⟩ : S39), (⟨4, 4⟩ : S39)] : List (S39)))).bind fun bt138 => ((flow_Bounds.f y125 (([(⟨3, 3⟩ : S39), (⟨3, 5⟩ : S39), (⟨4, 4⟩ : S39)] : List (S39)))).bind fun bt145 => ((flow_State.f y125 (([(⟨10, 10⟩ : S39), (⟨3, 5⟩ : S39), (⟨0, 100⟩ : S39)] : List (S39))) 2 5).bind fun bt152 => ((flow_Consistent.f y125 (([(⟨0, 100⟩ : S39), (⟨3, 5⟩ : S39), (⟨4, 4⟩ : S39)] : List (S39))) (([12, 5, 4] : List Int))).bind fun bt162 => (if t132 = 0 then (if bt138.2 = 0 then (if bt145.2 = 30 then (if bt152.2 = 0 then (if bt162.2 = 0 then (if bt162.1 = true then (cohousinglaw28_head.j0 k y125 t131 bt138.1 false) else ((cohousingref02_Same.f k bt152.1 (([10, 3, 5] : List Int))).bind fun t167 => (cohousinglaw28_head.j0 k y125 t131 bt138.1 t167))) else (cohousinglaw28_head.j0 k y125 t131 bt138.1 false)) else (cohousinglaw28_head.j0 k y125 t131 bt138.1 false)) else (cohousinglaw28_head.j0 k y125 t131 bt138.1 false)) else (cohousinglaw28_head.j0 k y125 t131 bt138.1 false)) else (cohousinglaw28_head.j0 k y125 t131 bt138.1 false)))))) = some r := H
 have A1 := Aside0.mk A10
 clear A10
 obtain ⟨y135, hy135⟩ : ∃ y_ : List (S39), y_ = (([(⟨0, 100⟩ : S39), (⟨3, 5⟩ : S39), (⟨4, 4⟩ : S39)] : List (S39))) := ⟨_, rfl⟩
 replace H : ((flow_Bounds.f y125 y135).bind fun bt138 => ((flow_Bounds.f y125 (([(⟨3, 3⟩ : S39), (⟨3, 5⟩ : S39), (⟨4, 4⟩ : S39)] : List (S39)))).bind fun bt145 => ((flow_State.f y125 (([(⟨10, 10⟩ : S39), (⟨3, 5⟩ : S39), (⟨0, 100⟩ : S39)] : List (S39))) 2 5).bind fun bt152 => ((flow_Consistent.f y125 (([(⟨0, 100⟩ : S39), (⟨3, 5⟩ : S39), (⟨4, 4⟩ : S39)] : List (S39))) (([12, 5, 4] : List Int))).bind fun bt162 => (if t132 = 0 then (if bt138.2 = 0 then (if bt145.2 = 30 then (if bt152.2 = 0 then (if bt162.2 = 0 then (if bt162.1 = true then (cohousinglaw28_head.j0 k y125 t131 bt138.1 false) else ((cohousingref02_Same.f k bt152.1 (([10, 3, 5] : List Int))).bind fun t167 => (cohousinglaw28_head.j0 k y125 t131 bt138.1 t167))) else (cohousinglaw28_head.j0 k y125 t131 bt138.1 false)) else (cohousinglaw28_head.j0 k y125 t131 bt138.1 false)) else (cohousinglaw28_head.j0 k y125 t131 bt138.1 false)) else (cohousinglaw28_head.j0 k y125 t131 bt138.1 false)) else (cohousinglaw28_head.j0 k y125 t131 bt138.1 false)))))) = some r := by first | (rw [hy135]; with_reducible exact H) | (have H2_ := (Option.bind_some _ _).symm.trans H; rw [hy135]; with_reducible exact H2_) | (have H2_ := (Option.bind_some _ _).symm.trans H; with_reducible exact H2_) | with_reducible exact H | (rw [hy135]; exact H) | exact H
 have Ny135 := Aside0.mk hy135
 clear hy135
 replace H := Option.bind_eq_some_iff.mp H
 obtain ⟨⟨t138, t139⟩, A20, H⟩ := H
 replace H : ((flow_Bounds.f y125 (([(⟨3, 3⟩ : S39), (⟨3, 5⟩ : S39), (⟨4, 4⟩ : S39)] : List (S39)))).bind fun bt145 => ((flow_State.f y125 (([(⟨10, 10⟩ : S39), (⟨3, 5⟩ : S39), (⟨0, 100⟩ : S39)] : List (S39))) 2 5).bind fun bt152 => ((flow_Consistent.f y125 (([(⟨0, 100⟩ : S39), (⟨3, 5⟩ : S39), (⟨4, 4⟩ : S39)] : List (S39))) (([12, 5, 4] : List Int))).bind fun bt162 => (if t132 = 0 then (if t139 = 0 then (if bt145.2 = 30 then (if bt152.2 = 0 then (if bt162.2 = 0 then (if bt162.1 = true then (cohousinglaw28_head.j0 k y125 t131 t138 false) else ((cohousingref02_Same.f k bt152.1 (([10, 3, 5] : List Int))).bind fun t167 => (cohousinglaw28_head.j0 k y125 t131 t138 t167))) else (cohousinglaw28_head.j0 k y125 t131 t138 false)) else (cohousinglaw28_head.j0 k y125 t131 t138 false)) else (cohousinglaw28_head.j0 k y125 t131 t138 false)) else (cohousinglaw28_head.j0 k y125 t131 t138 false)) else (cohousinglaw28_head.j0 k y125 t131 t138 false))))) = some r := H
 have A2 := Aside0.mk A20
 clear A20
 obtain ⟨y142, hy142⟩ : ∃ y_ : List (S39), y_ = (([(⟨3, 3⟩ : S39), (⟨3, 5⟩ : S39), (⟨4, 4⟩ : S39)] : List (S39))) := ⟨_, rfl⟩
 replace H : ((flow_Bounds.f y125 y142).bind fun bt145 => ((flow_State.f y125 (([(⟨10, 10⟩ : S39), (⟨3, 5⟩ : S39), (⟨0, 100⟩ : S39)] : List (S39))) 2 5).bind fun bt152 => ((flow_Consistent.f y125 (([(⟨0, 100⟩ : S39), (⟨3, 5⟩ : S39), (⟨4, 4⟩ : S39)] : List (S39))) (([12, 5, 4] : List Int))).bind fun bt162 => (if t132 = 0 then (if t139 = 0 then (if bt145.2 = 30 then (if bt152.2 = 0 then (if bt162.2 = 0 then (if bt162.1 = true then (cohousinglaw28_head.j0 k y125 t131 t138 false) else ((cohousingref02_Same.f k bt152.1 (([10, 3, 5] : List Int))).bind fun t167 => (cohousinglaw28_head.j0 k y125 t131 t138 t167))) else (cohousinglaw28_head.j0 k y125 t131 t138 false)) else (cohousinglaw28_head.j0 k y125 t131 t138 false)) else (cohousinglaw28_head.j0 k y125 t131 t138 false)) else (cohousinglaw28_head.j0 k y125 t131 t138 false)) else (cohousinglaw28_head.j0 k y125 t131 t138 false))))) = some r := by first | (rw [hy142]; with_reducible exact H) | (have H2_ := (Option.bind_some _ _).symm.trans H; rw [hy142]; with_reducible exact H2_) | (have H2_ := (Option.bind_some _ _).symm.trans H; with_reducible exact H2_) | with_reducible exact H | (rw [hy142]; exact H) | exact H
 have Ny142 := Aside0.mk hy142
 clear hy142
 replace H := Option.bind_eq_some_iff.mp H
 obtain ⟨⟨t145, t146⟩, A30, H⟩ := H
 replace H : ((flow_State.f y125 (([(⟨10, 10⟩ : S39), (⟨3, 5⟩ : S39), (⟨0, 100⟩ : S39)] : List (S39))) 2 5).bind fun bt152 => ((flow_Consistent.f y125 (([(⟨0, 100⟩ : S39), (⟨3, 5⟩ : S39), (⟨4, 4⟩ : S39)] : List (S39))) (([12, 5, 4] : List Int))).bind fun bt162 => (if t132 = 0 then (if t139 = 0 then (if t146 = 30 then (if bt152.2 = 0 then (if bt162.2 = 0 then (if bt162.1 = true then (cohousinglaw28_head.j0 k y125 t131 t138 false) else ((cohousingref02_Same.f k bt152.1 (([10, 3, 5] : List Int))).bind fun t167 => (cohousinglaw28_head.j0 k y125 t131 t138 t167))) else (cohousinglaw28_head.j0 k y125 t131 t138 false)) else (cohousinglaw28_head.j0 k y125 t131 t138 false)) else (cohousinglaw28_head.j0 k y125 t131 t138 false)) else (cohousinglaw28_head.j0 k y125 t131 t138 false)) else (cohousinglaw28_head.j0 k y125 t131 t138 false)))) = some r := H
 have A3 := Aside0.mk A30
 clear A30
 obtain ⟨y149, hy149⟩ : ∃ y_ : List (S39), y_ = (([(⟨10, 10⟩ : S39), (⟨3, 5⟩ : S39), (⟨0, 100⟩ : S39)] : List (S39))) := ⟨_, rfl⟩
 replace H : ((flow_State.f y125 y149 2 5).bind fun bt152 => ((flow_Consistent.f y125 (([(⟨0, 100⟩ : S39), (⟨3, 5⟩ : S39), (⟨4, 4⟩ : S39)] : List (S39))) (([12, 5, 4] : List Int))).bind fun bt162 => (if t132 = 0 then (if t139 = 0 then (if t146 = 30 then (if bt152.2 = 0 then (if bt162.2 = 0 then (if bt162.1 = true then (cohousinglaw28_head.j0 k y125 t131 t138 false) else ((cohousingref02_Same.f k bt152.1 (([10, 3, 5] : List Int))).bind fun t167 => (cohousinglaw28_head.j0 k y125 t131 t138 t167))) else (cohousinglaw28_head.j0 k y125 t131 t138 false)) else (cohousinglaw28_head.j0 k y125 t131 t138 false)) else (cohousinglaw28_head.j0 k y125 t131 t138 false)) else (cohousinglaw28_head.j0 k y125 t131 t138 false)) else (cohousinglaw28_head.j0 k y125 t131 t138 false)))) = some r := by first | (rw [hy149]; with_reducible exact H) | (have H2_ := (Option.bind_some _ _).symm.trans H; rw [hy149]; with_reducible exact H2_) | (have H2_ := (Option.bind_some _ _).symm.trans H; with_reducible exact H2_) | with_reducible exact H | (rw [hy149]; exact H) | exact H
 have Ny149 := Aside0.mk hy149
 clear hy149
 replace H := Option.bind_eq_some_iff.mp H
 obtain ⟨⟨t152, t153⟩, A40, H⟩ := H
 replace H : ((flow_Consistent.f y125 (([(⟨0, 100⟩ : S39), (⟨3, 5⟩ : S39), (⟨4, 4⟩ : S39)] : List (S39))) (([12, 5, 4] : List Int))).bind fun bt162 => (if t132 = 0 then (if t139 = 0 then (if t146 = 30 then (if t153 = 0 then (if bt162.2 = 0 then (if bt162.1 = true then (cohousinglaw28_head.j0 k y125 t131 t138 false) else ((cohousingref02_Same.f k t152 (([10, 3, 5] : List Int))).bind fun t167 => (cohousinglaw28_head.j0 k y125 t131 t138 t167))) else (cohousinglaw28_head.j0 k y125 t131 t138 false)) else (cohousinglaw28_head.j0 k y125 t131 t138 false)) else (cohousinglaw28_head.j0 k y125 t131 t138 false)) else (cohousinglaw28_head.j0 k y125 t131 t138 false)) else (cohousinglaw28_head.j0 k y125 t131 t138 false))) = some r := H
 have A4 := Aside0.mk A40
 clear A40
 obtain ⟨y156, hy156⟩ : ∃ y_ : List (S39), y_ = (([(⟨0, 100⟩ : S39), (⟨3, 5⟩ : S39), (⟨4, 4⟩ : S39)] : List (S39))) := ⟨_, rfl⟩
 replace H : ((flow_Consistent.f y125 y156 (([12, 5, 4] : List Int))).bind fun bt162 => (if t132 = 0 then (if t139 = 0 then (if t146 = 30 then (if t153 = 0 then (if bt162.2 = 0 then (if bt162.1 = true then (cohousinglaw28_head.j0 k y125 t131 t138 false) else ((cohousingref02_Same.f k t152 (([10, 3, 5] : List Int))).bind fun t167 => (cohousinglaw28_head.j0 k y125 t131 t138 t167))) else (cohousinglaw28_head.j0 k y125 t131 t138 false)) else (cohousinglaw28_head.j0 k y125 t131 t138 false)) else (cohousinglaw28_head.j0 k y125 t131 t138 false)) else (cohousinglaw28_head.j0 k y125 t131 t138 false)) else (cohousinglaw28_head.j0 k y125 t131 t138 false))) = some r := by first | (rw [hy156]; with_reducible exact H) | (have H2_ := (Option.bind_some _ _).symm.trans H; rw [hy156]; with_reducible exact H2_) | (have H2_ := (Option.bind_some _ _).symm.trans H; with_reducible exact H2_) | with_reducible exact H | (rw [hy156]; exact H) | exact H
 have Ny156 := Aside0.mk hy156
 clear hy156
 obtain ⟨y159, hy159⟩ : ∃ y_ : List Int, y_ = (([12, 5, 4] : List Int)) := ⟨_, rfl⟩
 replace H : ((flow_Consistent.f y125 y156 y159).bind fun bt162 => (if t132 = 0 then (if t139 = 0 then (if t146 = 30 then (if t153 = 0 then (if bt162.2 = 0 then (if bt162.1 = true then (cohousinglaw28_head.j0 k y125 t131 t138 false) else ((cohousingref02_Same.f k t152 (([10, 3, 5] : List Int))).bind fun t167 => (cohousinglaw28_head.j0 k y125 t131 t138 t167))) else (cohousinglaw28_head.j0 k y125 t131 t138 false)) else (cohousinglaw28_head.j0 k y125 t131 t138 false)) else (cohousinglaw28_head.j0 k y125 t131 t138 false)) else (cohousinglaw28_head.j0 k y125 t131 t138 false)) else (cohousinglaw28_head.j0 k y125 t131 t138 false))) = some r := by first | (rw [hy159]; with_reducible exact H) | (have H2_ := (Option.bind_some _ _).symm.trans H; rw [hy159]; with_reducible exact H2_) | (have H2_ := (Option.bind_some _ _).symm.trans H; with_reducible exact H2_) | with_reducible exact H | (rw [hy159]; exact H) | exact H
 have Ny159 := Aside0.mk hy159
 clear hy159
 replace H := Option.bind_eq_some_iff.mp H
 obtain ⟨⟨t162, t163⟩, A50, H⟩ := H
 replace H : (if t132 = 0 then (if t139 = 0 then (if t146 = 30 then (if t153 = 0 then (if t163 = 0 then (if t162 = true then (cohousinglaw28_head.j0 k y125 t131 t138 false) else ((cohousingref02_Same.f k t152 (([10, 3, 5] : List Int))).bind fun t167 => (cohousinglaw28_head.j0 k y125 t131 t138 t167))) else (cohousinglaw28_head.j0 k y125 t131 t138 false)) else (cohousinglaw28_head.j0 k y125 t131 t138 false)) else (cohousinglaw28_head.j0 k y125 t131 t138 false)) else (cohousinglaw28_head.j0 k y125 t131 t138 false)) else (cohousinglaw28_head.j0 k y125 t131 t138 false)) = some r := H
 have A5 := Aside0.mk A50
 clear A50
 have HC6 := Aside0.mk H
 clear H
 go_enter Try.func10, Try.ntmps10
 go_upto_region 7 with (first | ((with_reducible refine gate_dst (N := 16) rfl ?_); (try (refine gate_guard (by rfl) ?_; dsimp only)); refine Kd.R_lit k44 _ 44 ?hg (N := 16) ?hd (xs := ([(⟨1, 0, 2⟩ : S44), (⟨2, 1, 0⟩ : S44), (⟨3, 1, 0⟩ : S44)] : List (S44))) (inner := [.int .i64 1, .int .i64 0, .int .i64 2, .int .i64 2, .int .i64 1, .int .i64 0, .int .i64 3, .int .i64 1, .int .i64 0]) (ok := fun _ => True) (okp := fun _ => True) ?hr ?hp (fun _ hk => hk) trivial (Below.refl _ _) (Nat.le_refl _) (by simp) ?_; (case hd => rfl); (case hg => rfl); (case hr => first | (go_simp; done) | (go_simp; rfl)); (case hp => exact (Reps.c3 (show Kd.M k44 _ _ _ (⟨1, 0, 2⟩ : S44) [.int .i64 1, .int .i64 0, .int .i64 2] from (k44_mkM _ _ _ (⟨1, 0, 2⟩ : S44) )) (Reps.c3 (show Kd.M k44 _ _ _ (⟨2, 1, 0⟩ : S44) [.int .i64 2, .int .i64 1, .int .i64 0] from (k44_mkM _ _ _ (⟨2, 1, 0⟩ : S44) )) (Reps.c3 (show Kd.M k44 _ _ _ (⟨3, 1, 0⟩ : S44) [.int .i64 3, .int .i64 1, .int .i64 0] from (k44_mkM _ _ _ (⟨3, 1, 0⟩ : S44) )) (Reps.none _ _))))); intro v126 w7 ho8 hb hg_ hnew_; clear hg_ hnew_; (first | rw [← Ny125.out] at ho8 | (simp only [Int.reduceToNat] at ho8; rw [← Ny125.out] at ho8)); have n0_ := Aside0.mk (Kd.R_lower ho8 (below_size (by repeat (first | (with_reducible first | exact HB.out | apply below_alloc | apply pw_below_drewN | apply below_drew1) | exact HB.out)))); have n1_ := Aside0.mk (below_step (by repeat (first | (with_reducible first | exact HB.out | apply below_alloc | apply pw_below_drewN | apply below_drew1) | exact HB.out)) hb); clear HB; have HO127 := n0_; have HB := n1_; clear n0_ n1_; clear hb ho8) | ((with_reducible refine gate_dst (N := 22) rfl ?_); (try (refine gate_guard (by rfl) ?_; dsimp only)); refine Kd.R_lit k39 _ 39 ?hg (N := 22) ?hd (xs := ([(⟨10, 10⟩ : S39), (⟨3, 5⟩ : S39), (⟨0, 100⟩ : S39)] : List (S39))) (inner := [.int .i64 10, .int .i64 10, .int .i64 3, .int .i64 5, .int .i64 0, .int .i64 100]) (ok := fun _ => True) (okp := fun _ => True) ?hr ?hp (fun _ hk => hk) trivial (Below.refl _ _) (Nat.le_refl _) (by simp) ?_; (case hd => rfl); (case hg => rfl); (case hr => first | (go_simp; done) | (go_simp; rfl)); (case hp => exact (Reps.c2 (show Kd.M k39 _ _ _ (⟨10, 10⟩ : S39) [.int .i64 10, .int .i64 10] from (k39_mkM _ _ _ (⟨10, 10⟩ : S39) )) (Reps.c2 (show Kd.M k39 _ _ _ (⟨3, 5⟩ : S39) [.int .i64 3, .int .i64 5] from (k39_mkM _ _ _ (⟨3, 5⟩ : S39) )) (Reps.c2 (show Kd.M k39 _ _ _ (⟨0, 100⟩ : S39) [.int .i64 0, .int .i64 100] from (k39_mkM _ _ _ (⟨0, 100⟩ : S39) )) (Reps.none _ _))))); intro v129 w9 ho10 hb hg_ hnew_; clear hg_ hnew_; (first | rw [← Ny128.out] at ho10 | (simp only [Int.reduceToNat] at ho10; rw [← Ny128.out] at ho10)); have n0_ := Aside0.mk (Kd.R_below (by (with_reducible repeat (first | apply Kd.R_alloc | apply Kd.R_drewN | apply Kd.R_drew)); exact HO127.out) hb); have n1_ := Aside0.mk (Kd.R_lower ho10 (below_size (by repeat (first | (with_reducible first | exact HB.out | apply below_alloc | apply pw_below_drewN | apply below_drew1) | exact HB.out)))); have n2_ := Aside0.mk (below_step (by repeat (first | (with_reducible first | exact HB.out | apply below_alloc | apply pw_below_drewN | apply below_drew1) | exact HB.out)) hb); clear HO127; clear HB; have HO127 := n0_; have HO130 := n1_; have HB := n2_; clear n0_ n1_ n2_; clear hb ho10; obtain ⟨Ao11, co11, eo11⟩ := Kd.R_slice HO127.out; subst eo11; obtain ⟨Ao12, co12, eo12⟩ := Kd.R_slice HO130.out; subst eo12) | ((with_reducible refine gate_callee (f := 11) rfl ?_); refine goesL_ (some 23) rfl rfl Try.func11 (by kernel_rfl) rfl #[.slice Ao11 y125.length co11, .slice Ao12 y128.length co12] rfl (by (try simp only [List.map_toArray, List.map_cons, List.map_nil]); first | done | rfl | (simp only [List.length_drop, List.length_take]; rfl)) ?_; (with_reducible refine (flow_Bounds.calls _ _ y125 _ _ y128 t131 t132 _ ?side1 ?side2 ?side3 ?side4 A1.out).mono ?_); (case side1 => repeat (first | exact (Kd.R_reads' HO127.out).2.2 | (with_reducible refine Kd.C_alloc ?_ _) | (with_reducible refine Kd.C_drewN ?_ _) | (with_reducible refine Kd.C_drew ?_))); (case side2 => exact (Kd.R_reads' HO127.out).2.1); (case side3 => repeat (first | exact (Kd.R_reads' HO130.out).2.2 | (with_reducible refine Kd.C_alloc ?_ _) | (with_reducible refine Kd.C_drewN ?_ _) | (with_reducible refine Kd.C_drew ?_))); (case side4 => exact (Kd.R_reads' HO130.out).2.1); rintro e w13 ⟨v133, rfl, ho0, hb⟩; refine ⟨_, rfl, ?_⟩; have n0_ := Aside0.mk (Kd.R_below (by (with_reducible repeat (first | apply Kd.R_alloc | apply Kd.R_drewN | apply Kd.R_drew)); exact HO127.out) hb); have n1_ := Aside0.mk (Kd.R_elder' (by (with_reducible repeat (first | apply Kd.R_alloc | apply Kd.R_drewN | apply Kd.R_drew)); exact HO130.out) (Kd.R_base ho0) hb); have n2_ := Aside0.mk (Kd.R_lower (Kd.R_new' ho0 (Kd.R_lt (by (with_reducible repeat (first | apply Kd.R_alloc | apply Kd.R_drewN | apply Kd.R_drew)); exact HO130.out))) (below_size (by repeat (first | (with_reducible first | exact HB.out | apply below_alloc | apply pw_below_drewN | apply below_drew1) | exact HB.out)))); have n3_ := Aside0.mk (below_step (by repeat (first | (with_reducible first | exact HB.out | apply below_alloc | apply pw_below_drewN | apply below_drew1) | exact HB.out)) hb); clear HO127; clear HO130; clear HB; have HO127 := n0_; have HO130 := n1_; have HO134 := n2_; have HB := n3_; clear n0_ n1_ n2_ n3_; (try clear hb); (try clear hb2); (try clear hk); (try clear hi); (try clear ho0)) | ((with_reducible refine gate_dst (N := 31) rfl ?_); (try (refine gate_guard (by rfl) ?_; dsimp only)); refine Kd.R_lit k39 _ 39 ?hg (N := 31) ?hd (xs := ([(⟨0, 100⟩ : S39), (⟨3, 5⟩ : S39), (⟨4, 4⟩ : S39)] : List (S39))) (inner := [.int .i64 0, .int .i64 100, .int .i64 3, .int .i64 5, .int .i64 4, .int .i64 4]) (ok := fun _ => True) (okp := fun _ => True) ?hr ?hp (fun _ hk => hk) trivial (Below.refl _ _) (Nat.le_refl _) (by simp) ?_; (case hd => rfl); (case hg => rfl); (case hr => first | (go_simp; done) | (go_simp; rfl)); (case hp => exact (Reps.c2 (show Kd.M k39 _ _ _ (⟨0, 100⟩ : S39) [.int .i64 0, .int .i64 100] from (k39_mkM _ _ _ (⟨0, 100⟩ : S39) )) (Reps.c2 (show Kd.M k39 _ _ _ (⟨3, 5⟩ : S39) [.int .i64 3, .int .i64 5] from (k39_mkM _ _ _ (⟨3, 5⟩ : S39) )) (Reps.c2 (show Kd.M k39 _ _ _ (⟨4, 4⟩ : S39) [.int .i64 4, .int .i64 4] from (k39_mkM _ _ _ (⟨4, 4⟩ : S39) )) (Reps.none _ _))))); intro v136 w14 ho15 hb hg_ hnew_; clear hg_ hnew_; (first | rw [← Ny135.out] at ho15 | (simp only [Int.reduceToNat] at ho15; rw [← Ny135.out] at ho15)); have n0_ := Aside0.mk (Kd.R_below (by (with_reducible repeat (first | apply Kd.R_alloc | apply Kd.R_drewN | apply Kd.R_drew)); exact HO127.out) hb); have n1_ := Aside0.mk (Kd.R_elder' (by (with_reducible repeat (first | apply Kd.R_alloc | apply Kd.R_drewN | apply Kd.R_drew)); exact HO130.out) (Kd.R_base ho15) hb); have n2_ := Aside0.mk (Kd.R_elder' (by (with_reducible repeat (first | apply Kd.R_alloc | apply Kd.R_drewN | apply Kd.R_drew)); exact HO134.out) (Kd.R_base ho15) hb); have n3_ := Aside0.mk (Kd.R_lower (Kd.R_new' (Kd.R_new' ho15 (Kd.R_lt (by (with_reducible repeat (first | apply Kd.R_alloc | apply Kd.R_drewN | apply Kd.R_drew)); exact HO130.out))) (Kd.R_lt (by (with_reducible repeat (first | apply Kd.R_alloc | apply Kd.R_drewN | apply Kd.R_drew)); exact HO134.out))) (below_size (by repeat (first | (with_reducible first | exact HB.out | apply below_alloc | apply pw_below_drewN | apply below_drew1) | exact HB.out)))); have n4_ := Aside0.mk (below_step (by repeat (first | (with_reducible first | exact HB.out | apply below_alloc | apply pw_below_drewN | apply below_drew1) | exact HB.out)) hb); clear HO127; clear HO130; clear HO134; clear HB; have HO127 := n0_; have HO130 := n1_; have HO134 := n2_; have HO137 := n3_; have HB := n4_; clear n0_ n1_ n2_ n3_ n4_; clear hb ho15; obtain ⟨Ao16, co16, eo16⟩ := Kd.R_slice HO137.out; subst eo16) | ((with_reducible refine gate_callee (f := 11) rfl ?_); refine goesL_ (some 32) rfl rfl Try.func11 (by kernel_rfl) rfl #[.slice Ao11 y125.length co11, .slice Ao16 y135.length co16] rfl (by (try simp only [List.map_toArray, List.map_cons, List.map_nil]); first | done | rfl | (simp only [List.length_drop, List.length_take]; rfl)) ?_; (with_reducible refine (flow_Bounds.calls _ _ y125 _ _ y135 t138 t139 _ ?side1 ?side2 ?side3 ?side4 A2.out).mono ?_); (case side1 => repeat (first | exact (Kd.R_reads' HO127.out).2.2 | (with_reducible refine Kd.C_alloc ?_ _) | (with_reducible refine Kd.C_drewN ?_ _) | (with_reducible refine Kd.C_drew ?_))); (case side2 => exact (Kd.R_reads' HO127.out).2.1); (case side3 => repeat (first | exact (Kd.R_reads' HO137.out).2.2 | (with_reducible refine Kd.C_alloc ?_ _) | (with_reducible refine Kd.C_drewN ?_ _) | (with_reducible refine Kd.C_drew ?_))); (case side4 => exact (Kd.R_reads' HO137.out).2.1); rintro e w17 ⟨v140, rfl, ho0, hb⟩; refine ⟨_, rfl, ?_⟩; have n0_ := Aside0.mk (Kd.R_below (by (with_reducible repeat (first | apply Kd.R_alloc | apply Kd.R_drewN | apply Kd.R_drew)); exact HO127.out) hb); have n1_ := Aside0.mk (Kd.R_elder' (by (with_reducible repeat (first | apply Kd.R_alloc | apply Kd.R_drewN | apply Kd.R_drew)); exact HO130.out) (Kd.R_base ho0) hb); have n2_ := Aside0.mk (Kd.R_elder' (by (with_reducible repeat (first | apply Kd.R_alloc | apply Kd.R_drewN | apply Kd.R_drew)); exact HO134.out) (Kd.R_base ho0) hb); have n3_ := Aside0.mk (Kd.R_elder' (by (with_reducible repeat (first | apply Kd.R_alloc | apply Kd.R_drewN | apply Kd.R_drew)); exact HO137.out) (Kd.R_base ho0) hb); have n4_ := Aside0.mk (Kd.R_lower (Kd.R_new' (Kd.R_new' (Kd.R_new' ho0 (Kd.R_lt (by (with_reducible repeat (first | apply Kd.R_alloc | apply Kd.R_drewN | apply Kd.R_drew)); exact HO130.out))) (Kd.R_lt (by (with_reducible repeat (first | apply Kd.R_alloc | apply Kd.R_drewN | apply Kd.R_drew)); exact HO134.out))) (Kd.R_lt (by (with_reducible repeat (first | apply Kd.R_alloc | apply Kd.R_drewN | apply Kd.R_drew)); exact HO137.out))) (below_size (by repeat (first | (with_reducible first | exact HB.out | apply below_alloc | apply pw_below_drewN | apply below_drew1) | exact HB.out)))); have n5_ := Aside0.mk (below_step (by repeat (first | (with_reducible first | exact HB.out | apply below_alloc | apply pw_below_drewN | apply below_drew1) | exact HB.out)) hb); clear HO127; clear HO130; clear HO134; clear HO137; clear HB; have HO127 := n0_; have HO130 := n1_; have HO134 := n2_; have HO137 := n3_; have HO141 := n4_; have HB := n5_; clear n0_ n1_ n2_ n3_ n4_ n5_; (try clear hb); (try clear hb2); (try clear hk); (try clear hi); (try clear ho0)) | ((with_reducible refine gate_dst (N := 40) rfl ?_); (try (refine gate_guard (by rfl) ?_; dsimp only)); refine Kd.R_lit k39 _ 39 ?hg (N := 40) ?hd (xs := ([(⟨3, 3⟩ : S39), (⟨3, 5⟩ : S39), (⟨4, 4⟩ : S39)] : List (S39))) (inner := [.int .i64 3, .int .i64 3, .int .i64 3, .int .i64 5, .int .i64 4, .int .i64 4]) (ok := fun _ => True) (okp := fun _ => True) ?hr ?hp (fun _ hk => hk) trivial (Below.refl _ _) (Nat.le_refl _) (by simp) ?_; (case hd => rfl); (case hg => rfl); (case hr => first | (go_simp; done) | (go_simp; rfl)); (case hp => exact (Reps.c2 (show Kd.M k39 _ _ _ (⟨3, 3⟩ : S39) [.int .i64 3, .int .i64 3] from (k39_mkM _ _ _ (⟨3, 3⟩ : S39) )) (Reps.c2 (show Kd.M k39 _ _ _ (⟨3, 5⟩ : S39) [.int .i64 3, .int .i64 5] from (k39_mkM _ _ _ (⟨3, 5⟩ : S39) )) (Reps.c2 (show Kd.M k39 _ _ _ (⟨4, 4⟩ : S39) [.int .i64 4, .int .i64 4] from (k39_mkM _ _ _ (⟨4, 4⟩ : S39) )) (Reps.none _ _))))); intro v143 w18 ho19 hb hg_ hnew_; clear hg_ hnew_; (first | rw [← Ny142.out] at ho19 | (simp only [Int.reduceToNat] at ho19; rw [← Ny142.out] at ho19)); have n0_ := Aside0.mk (Kd.R_below (by (with_reducible repeat (first | apply Kd.R_alloc | apply Kd.R_drewN | apply Kd.R_drew)); exact HO127.out) hb); have n1_ := Aside0.mk (Kd.R_elder' (by (with_reducible repeat (first | apply Kd.R_alloc | apply Kd.R_drewN | apply Kd.R_drew)); exact HO130.out) (Kd.R_base ho19) hb); have n2_ := Aside0.mk (Kd.R_elder' (by (with_reducible repeat (first | apply Kd.R_alloc | apply Kd.R_drewN | apply Kd.R_drew)); exact HO134.out) (Kd.R_base ho19) hb); have n3_ := Aside0.mk (Kd.R_elder' (by (with_reducible repeat (first | apply Kd.R_alloc | apply Kd.R_drewN | apply Kd.R_drew)); exact HO137.out) (Kd.R_base ho19) hb); have n4_ := Aside0.mk (Kd.R_elder' (by (with_reducible repeat (first | apply Kd.R_alloc | apply Kd.R_drewN | apply Kd.R_drew)); exact HO141.out) (Kd.R_base ho19) hb); have n5_ := Aside0.mk (Kd.R_lower (Kd.R_new' (Kd.R_new' (Kd.R_new' (Kd.R_new' ho19 (Kd.R_lt (by (with_reducible repeat (first | apply Kd.R_alloc | apply Kd.R_drewN | apply Kd.R_drew)); exact HO130.out))) (Kd.R_lt (by (with_reducible repeat (first | apply Kd.R_alloc | apply Kd.R_drewN | apply Kd.R_drew)); exact HO134.out))) (Kd.R_lt (by (with_reducible repeat (first | apply Kd.R_alloc | apply Kd.R_drewN | apply Kd.R_drew)); exact HO137.out))) (Kd.R_lt (by (with_reducible repeat (first | apply Kd.R_alloc | apply Kd.R_drewN | apply Kd.R_drew)); exact HO141.out))) (below_size (by repeat (first | (with_reducible first | exact HB.out | apply below_alloc | apply pw_below_drewN | apply below_drew1) | exact HB.out)))); have n6_ := Aside0.mk (below_step (by repeat (first | (with_reducible first | exact HB.out | apply below_alloc | apply pw_below_drewN | apply below_drew1) | exact HB.out)) hb); clear HO127; clear HO130; clear HO134; clear HO137; clear HO141; clear HB; have HO127 := n0_; have HO130 := n1_; have HO134 := n2_; have HO137 := n3_; have HO141 := n4_; have HO144 := n5_; have HB := n6_; clear n0_ n1_ n2_ n3_ n4_ n5_ n6_; clear hb ho19; obtain ⟨Ao20, co20, eo20⟩ := Kd.R_slice HO144.out; subst eo20) | ((with_reducible refine gate_callee (f := 11) rfl ?_); refine goesL_ (some 41) rfl rfl Try.func11 (by kernel_rfl) rfl #[.slice Ao11 y125.length co11, .slice Ao20 y142.length co20] rfl (by (try simp only [List.map_toArray, List.map_cons, List.map_nil]); first | done | rfl | (simp only [List.length_drop, List.length_take]; rfl)) ?_; (with_reducible refine (flow_Bounds.calls _ _ y125 _ _ y142 t145 t146 _ ?side1 ?side2 ?side3 ?side4 A3.out).mono ?_); (case side1 => repeat (first | exact (Kd.R_reads' HO127.out).2.2 | (with_reducible refine Kd.C_alloc ?_ _) | (with_reducible refine Kd.C_drewN ?_ _) | (with_reducible refine Kd.C_drew ?_))); (case side2 => exact (Kd.R_reads' HO127.out).2.1); (case side3 => repeat (first | exact (Kd.R_reads' HO144.out).2.2 | (with_reducible refine Kd.C_alloc ?_ _) | (with_reducible refine Kd.C_drewN ?_ _) | (with_reducible refine Kd.C_drew ?_))); (case side4 => exact (Kd.R_reads' HO144.out).2.1); rintro e w21 ⟨v147, rfl, ho0, hb⟩; refine ⟨_, rfl, ?_⟩; have n0_ := Aside0.mk (Kd.R_below (by (with_reducible repeat (first | apply Kd.R_alloc | apply Kd.R_drewN | apply Kd.R_drew)); exact HO127.out) hb); have n1_ := Aside0.mk (Kd.R_elder' (by (with_reducible repeat (first | apply Kd.R_alloc | apply Kd.R_drewN | apply Kd.R_drew)); exact HO130.out) (Kd.R_base ho0) hb); have n2_ := Aside0.mk (Kd.R_elder' (by (with_reducible repeat (first | apply Kd.R_alloc | apply Kd.R_drewN | apply Kd.R_drew)); exact HO134.out) (Kd.R_base ho0) hb); have n3_ := Aside0.mk (Kd.R_elder' (by (with_reducible repeat (first | apply Kd.R_alloc | apply Kd.R_drewN | apply Kd.R_drew)); exact HO137.out) (Kd.R_base ho0) hb); have n4_ := Aside0.mk (Kd.R_elder' (by (with_reducible repeat (first | apply Kd.R_alloc | apply Kd.R_drewN | apply Kd.R_drew)); exact HO141.out) (Kd.R_base ho0) hb); have n5_ := Aside0.mk (Kd.R_elder' (by (with_reducible repeat (first | apply Kd.R_alloc | apply Kd.R_drewN | apply Kd.R_drew)); exact HO144.out) (Kd.R_base ho0) hb); have n6_ := Aside0.mk (Kd.R_lower (Kd.R_new' (Kd.R_new' (Kd.R_new' (Kd.R_new' (Kd.R_new' ho0 (Kd.R_lt (by (with_reducible repeat (first | apply Kd.R_alloc | apply Kd.R_drewN | apply Kd.R_drew)); exact HO130.out))) (Kd.R_lt (by (with_reducible repeat (first | apply Kd.R_alloc | apply Kd.R_drewN | apply Kd.R_drew)); exact HO134.out))) (Kd.R_lt (by (with_reducible repeat (first | apply Kd.R_alloc | apply Kd.R_drewN | apply Kd.R_drew)); exact HO137.out))) (Kd.R_lt (by (with_reducible repeat (first | apply Kd.R_alloc | apply Kd.R_drewN | apply Kd.R_drew)); exact HO141.out))) (Kd.R_lt (by (with_reducible repeat (first | apply Kd.R_alloc | apply Kd.R_drewN | apply Kd.R_drew)); exact HO144.out))) (below_size (by repeat (first | (with_reducible first | exact HB.out | apply below_alloc | apply pw_below_drewN | apply below_drew1) | exact HB.out)))); have n7_ := Aside0.mk (below_step (by repeat (first | (with_reducible first | exact HB.out | apply below_alloc | apply pw_below_drewN | apply below_drew1) | exact HB.out)) hb); clear HO127; clear HO130; clear HO134; clear HO137; clear HO141; clear HO144; clear HB; have HO127 := n0_; have HO130 := n1_; have HO134 := n2_; have HO137 := n3_; have HO141 := n4_; have HO144 := n5_; have HO148 := n6_; have HB := n7_; clear n0_ n1_ n2_ n3_ n4_ n5_ n6_ n7_; (try clear hb); (try clear hb2); (try clear hk); (try clear hi); (try clear ho0)) | ((with_reducible refine gate_dst (N := 49) rfl ?_); (try (refine gate_guard (by rfl) ?_; dsimp only)); refine Kd.R_lit k39 _ 39 ?hg (N := 49) ?hd (xs := ([(⟨10, 10⟩ : S39), (⟨3, 5⟩ : S39), (⟨0, 100⟩ : S39)] : List (S39))) (inner := [.int .i64 10, .int .i64 10, .int .i64 3, .int .i64 5, .int .i64 0, .int .i64 100]) (ok := fun _ => True) (okp := fun _ => True) ?hr ?hp (fun _ hk => hk) trivial (Below.refl _ _) (Nat.le_refl _) (by simp) ?_; (case hd => rfl); (case hg => rfl); (case hr => first | (go_simp; done) | (go_simp; rfl)); (case hp => exact (Reps.c2 (show Kd.M k39 _ _ _ (⟨10, 10⟩ : S39) [.int .i64 10, .int .i64 10] from (k39_mkM _ _ _ (⟨10, 10⟩ : S39) )) (Reps.c2 (show Kd.M k39 _ _ _ (⟨3, 5⟩ : S39) [.int .i64 3, .int .i64 5] from (k39_mkM _ _ _ (⟨3, 5⟩ : S39) )) (Reps.c2 (show Kd.M k39 _ _ _ (⟨0, 100⟩ : S39) [.int .i64 0, .int .i64 100] from (k39_mkM _ _ _ (⟨0, 100⟩ : S39) )) (Reps.none _ _))))); intro v150 w22 ho23 hb hg_ hnew_; clear hg_ hnew_; (first | rw [← Ny149.out] at ho23 | (simp only [Int.reduceToNat] at ho23; rw [← Ny149.out] at ho23)); have n0_ := Aside0.mk (Kd.R_below (by (with_reducible repeat (first | apply Kd.R_alloc | apply Kd.R_drewN | apply Kd.R_drew)); exact HO127.out) hb); have n1_ := Aside0.mk (Kd.R_elder' (by (with_reducible repeat (first | apply Kd.R_alloc | apply Kd.R_drewN | apply Kd.R_drew)); exact HO130.out) (Kd.R_base ho23) hb); have n2_ := Aside0.mk (Kd.R_elder' (by (with_reducible repeat (first | apply Kd.R_alloc | apply Kd.R_drewN | apply Kd.R_drew)); exact HO134.out) (Kd.R_base ho23) hb); have n3_ := Aside0.mk (Kd.R_elder' (by (with_reducible repeat (first | apply Kd.R_alloc | apply Kd.R_drewN | apply Kd.R_drew)); exact HO137.out) (Kd.R_base ho23) hb); have n4_ := Aside0.mk (Kd.R_elder' (by (with_reducible repeat (first | apply Kd.R_alloc | apply Kd.R_drewN | apply Kd.R_drew)); exact HO141.out) (Kd.R_base ho23) hb); have n5_ := Aside0.mk (Kd.R_elder' (by (with_reducible repeat (first | apply Kd.R_alloc | apply Kd.R_drewN | apply Kd.R_drew)); exact HO144.out) (Kd.R_base ho23) hb); have n6_ := Aside0.mk (Kd.R_elder' (by (with_reducible repeat (first | apply Kd.R_alloc | apply Kd.R_drewN | apply Kd.R_drew)); exact HO148.out) (Kd.R_base ho23) hb); have n7_ := Aside0.mk (Kd.R_lower (Kd.R_new' (Kd.R_new' (Kd.R_new' (Kd.R_new' (Kd.R_new' (Kd.R_new' ho23 (Kd.R_lt (by (with_reducible repeat (first | apply Kd.R_alloc | apply Kd.R_drewN | apply Kd.R_drew)); exact HO130.out))) (Kd.R_lt (by (with_reducible repeat (first | apply Kd.R_alloc | apply Kd.R_drewN | apply Kd.R_drew)); exact HO134.out))) (Kd.R_lt (by (with_reducible repeat (first | apply Kd.R_alloc | apply Kd.R_drewN | apply Kd.R_drew)); exact HO137.out))) (Kd.R_lt (by (with_reducible repeat (first | apply Kd.R_alloc | apply Kd.R_drewN | apply Kd.R_drew)); exact HO141.out))) (Kd.R_lt (by (with_reducible repeat (first | apply Kd.R_alloc | apply Kd.R_drewN | apply Kd.R_drew)); exact HO144.out))) (Kd.R_lt (by (with_reducible repeat (first | apply Kd.R_alloc | apply Kd.R_drewN | apply Kd.R_drew)); exact HO148.out))) (below_size (by repeat (first | (with_reducible first | exact HB.out | apply below_alloc | apply pw_below_drewN | apply below_drew1) | exact HB.out)))); have n8_ := Aside0.mk (below_step (by repeat (first | (with_reducible first | exact HB.out | apply below_alloc | apply pw_below_drewN | apply below_drew1) | exact HB.out)) hb); clear HO127; clear HO130; clear HO134; clear HO137; clear HO141; clear HO144; clear HO148; clear HB; have HO127 := n0_; have HO130 := n1_; have HO134 := n2_; have HO137 := n3_; have HO141 := n4_; have HO144 := n5_; have HO148 := n6_; have HO151 := n7_; have HB := n8_; clear n0_ n1_ n2_ n3_ n4_ n5_ n6_ n7_ n8_; clear hb ho23; obtain ⟨Ao24, co24, eo24⟩ := Kd.R_slice HO151.out; subst eo24) | ((with_reducible refine gate_callee (f := 18) rfl ?_); refine goesL_ (some 50) rfl rfl Try.func18 (by kernel_rfl) rfl #[.slice Ao11 y125.length co11, .slice Ao24 y149.length co24, .int .i64 2, .int .i64 5] rfl (by (try simp only [List.map_toArray, List.map_cons, List.map_nil]); first | done | rfl | (simp only [List.length_drop, List.length_take]; rfl)) ?_; (with_reducible refine (flow_State.calls _ _ y125 _ _ y149 2 5 t152 t153 _ ?side1 ?side2 ?side3 ?side4 A4.out).mono ?_); (case side1 => repeat (first | exact (Kd.R_reads' HO127.out).2.2 | (with_reducible refine Kd.C_alloc ?_ _) | (with_reducible refine Kd.C_drewN ?_ _) | (with_reducible refine Kd.C_drew ?_))); (case side2 => exact (Kd.R_reads' HO127.out).2.1); (case side3 => repeat (first | exact (Kd.R_reads' HO151.out).2.2 | (with_reducible refine Kd.C_alloc ?_ _) | (with_reducible refine Kd.C_drewN ?_ _) | (with_reducible refine Kd.C_drew ?_))); (case side4 => exact (Kd.R_reads' HO151.out).2.1); rintro e w25 ⟨v154, rfl, ho0, hb⟩; refine ⟨_, rfl, ?_⟩; have n0_ := Aside0.mk (Kd.R_below (by (with_reducible repeat (first | apply Kd.R_alloc | apply Kd.R_drewN | apply Kd.R_drew)); exact HO127.out) hb); have n1_ := Aside0.mk (Kd.R_below (by (with_reducible repeat (first | apply Kd.R_alloc | apply Kd.R_drewN | apply Kd.R_drew)); exact HO130.out) hb); have n2_ := Aside0.mk (Kd.R_below (by (with_reducible repeat (first | apply Kd.R_alloc | apply Kd.R_drewN | apply Kd.R_drew)); exact HO134.out) hb); have n3_ := Aside0.mk (Kd.R_below (by (with_reducible repeat (first | apply Kd.R_alloc | apply Kd.R_drewN | apply Kd.R_drew)); exact HO137.out) hb); have n4_ := Aside0.mk (Kd.R_below (by (with_reducible repeat (first | apply Kd.R_alloc | apply Kd.R_drewN | apply Kd.R_drew)); exact HO141.out) hb); have n5_ := Aside0.mk (Kd.R_below (by (with_reducible repeat (first | apply Kd.R_alloc | apply Kd.R_drewN | apply Kd.R_drew)); exact HO144.out) hb); have n6_ := Aside0.mk (Kd.R_below (by (with_reducible repeat (first | apply Kd.R_alloc | apply Kd.R_drewN | apply Kd.R_drew)); exact HO148.out) hb); have n7_ := Aside0.mk (Kd.R_below (by (with_reducible repeat (first | apply Kd.R_alloc | apply Kd.R_drewN | apply Kd.R_drew)); exact HO151.out) hb); have n8_ := Aside0.mk (Kd.R_lower ho0 (below_size (by repeat (first | (with_reducible first | exact HB.out | apply below_alloc | apply pw_below_drewN | apply below_drew1) | exact HB.out)))); have n9_ := Aside0.mk (below_step (by repeat (first | (with_reducible first | exact HB.out | apply below_alloc | apply pw_below_drewN | apply below_drew1) | exact HB.out)) hb); clear HO127; clear HO130; clear HO134; clear HO137; clear HO141; clear HO144; clear HO148; clear HO151; clear HB; have HO127 := n0_; have HO130 := n1_; have HO134 := n2_; have HO137 := n3_; have HO141 := n4_; have HO144 := n5_; have HO148 := n6_; have HO151 := n7_; have HO155 := n8_; have HB := n9_; clear n0_ n1_ n2_ n3_ n4_ n5_ n6_ n7_ n8_ n9_; (try clear hb); (try clear hb2); (try clear hk); (try clear hi); (try clear ho0)) | ((with_reducible refine gate_dst (N := 58) rfl ?_); (try (refine gate_guard (by rfl) ?_; dsimp only)); refine Kd.R_lit k39 _ 39 ?hg (N := 58) ?hd (xs := ([(⟨0, 100⟩ : S39), (⟨3, 5⟩ : S39), (⟨4, 4⟩ : S39)] : List (S39))) (inner := [.int .i64 0, .int .i64 100, .int .i64 3, .int .i64 5, .int .i64 4, .int .i64 4]) (ok := fun _ => True) (okp := fun _ => True) ?hr ?hp (fun _ hk => hk) trivial (Below.refl _ _) (Nat.le_refl _) (by simp) ?_; (case hd => rfl); (case hg => rfl); (case hr => first | (go_simp; done) | (go_simp; rfl)); (case hp => exact (Reps.c2 (show Kd.M k39 _ _ _ (⟨0, 100⟩ : S39) [.int .i64 0, .int .i64 100] from (k39_mkM _ _ _ (⟨0, 100⟩ : S39) )) (Reps.c2 (show Kd.M k39 _ _ _ (⟨3, 5⟩ : S39) [.int .i64 3, .int .i64 5] from (k39_mkM _ _ _ (⟨3, 5⟩ : S39) )) (Reps.c2 (show Kd.M k39 _ _ _ (⟨4, 4⟩ : S39) [.int .i64 4, .int .i64 4] from (k39_mkM _ _ _ (⟨4, 4⟩ : S39) )) (Reps.none _ _))))); intro v157 w26 ho27 hb hg_ hnew_; clear hg_ hnew_; (first | rw [← Ny156.out] at ho27 | (simp only [Int.reduceToNat] at ho27; rw [← Ny156.out] at ho27)); have n0_ := Aside0.mk (Kd.R_below (by (with_reducible repeat (first | apply Kd.R_alloc | apply Kd.R_drewN | apply Kd.R_drew)); exact HO127.out) hb); have n1_ := Aside0.mk (Kd.R_elder' (by (with_reducible repeat (first | apply Kd.R_alloc | apply Kd.R_drewN | apply Kd.R_drew)); exact HO130.out) (Kd.R_base ho27) hb); have n2_ := Aside0.mk (Kd.R_elder' (by (with_reducible repeat (first | apply Kd.R_alloc | apply Kd.R_drewN | apply Kd.R_drew)); exact HO134.out) (Kd.R_base ho27) hb); have n3_ := Aside0.mk (Kd.R_elder' (by (with_reducible repeat (first | apply Kd.R_alloc | apply Kd.R_drewN | apply Kd.R_drew)); exact HO137.out) (Kd.R_base ho27) hb); have n4_ := Aside0.mk (Kd.R_elder' (by (with_reducible repeat (first | apply Kd.R_alloc | apply Kd.R_drewN | apply Kd.R_drew)); exact HO141.out) (Kd.R_base ho27) hb); have n5_ := Aside0.mk (Kd.R_elder' (by (with_reducible repeat (first | apply Kd.R_alloc | apply Kd.R_drewN | apply Kd.R_drew)); exact HO144.out) (Kd.R_base ho27) hb); have n6_ := Aside0.mk (Kd.R_elder' (by (with_reducible repeat (first | apply Kd.R_alloc | apply Kd.R_drewN | apply Kd.R_drew)); exact HO148.out) (Kd.R_base ho27) hb); have n7_ := Aside0.mk (Kd.R_elder' (by (with_reducible repeat (first | apply Kd.R_alloc | apply Kd.R_drewN | apply Kd.R_drew)); exact HO151.out) (Kd.R_base ho27) hb); have n8_ := Aside0.mk (Kd.R_below (by (with_reducible repeat (first | apply Kd.R_alloc | apply Kd.R_drewN | apply Kd.R_drew)); exact HO155.out) hb); have n9_ := Aside0.mk (Kd.R_lower (Kd.R_new' (Kd.R_new' (Kd.R_new' (Kd.R_new' (Kd.R_new' (Kd.R_new' (Kd.R_new' ho27 (Kd.R_lt (by (with_reducible repeat (first | apply Kd.R_alloc | apply Kd.R_drewN | apply Kd.R_drew)); exact HO130.out))) (Kd.R_lt (by (with_reducible repeat (first | apply Kd.R_alloc | apply Kd.R_drewN | apply Kd.R_drew)); exact HO134.out))) (Kd.R_lt (by (with_reducible repeat (first | apply Kd.R_alloc | apply Kd.R_drewN | apply Kd.R_drew)); exact HO137.out))) (Kd.R_lt (by (with_reducible repeat (first | apply Kd.R_alloc | apply Kd.R_drewN | apply Kd.R_drew)); exact HO141.out))) (Kd.R_lt (by (with_reducible repeat (first | apply Kd.R_alloc | apply Kd.R_drewN | apply Kd.R_drew)); exact HO144.out))) (Kd.R_lt (by (with_reducible repeat (first | apply Kd.R_alloc | apply Kd.R_drewN | apply Kd.R_drew)); exact HO148.out))) (Kd.R_lt (by (with_reducible repeat (first | apply Kd.R_alloc | apply Kd.R_drewN | apply Kd.R_drew)); exact HO151.out))) (below_size (by repeat (first | (with_reducible first | exact HB.out | apply below_alloc | apply pw_below_drewN | apply below_drew1) | exact HB.out)))); have n10_ := Aside0.mk (below_step (by repeat (first | (with_reducible first | exact HB.out | apply below_alloc | apply pw_below_drewN | apply below_drew1) | exact HB.out)) hb); clear HO127; clear HO130; clear HO134; clear HO137; clear HO141; clear HO144; clear HO148; clear HO151; clear HO155; clear HB; have HO127 := n0_; have HO130 := n1_; have HO134 := n2_; have HO137 := n3_; have HO141 := n4_; have HO144 := n5_; have HO148 := n6_; have HO151 := n7_; have HO155 := n8_; have HO158 := n9_; have HB := n10_; clear n0_ n1_ n2_ n3_ n4_ n5_ n6_ n7_ n8_ n9_ n10_; clear hb ho27) | ((with_reducible refine gate_dst (N := 59) rfl ?_); (try (refine gate_guard (by rfl) ?_; dsimp only)); refine Kd.R_lit (Kd.int .i64) _ 3 ?hg (N := 59) ?hd (xs := ([12, 5, 4] : List Int)) (inner := [.int .i64 12, .int .i64 5, .int .i64 4]) (ok := fun _ => True) (okp := fun _ => True) ?hr ?hp (fun _ hk => hk) trivial (Below.refl _ _) (Nat.le_refl _) (by simp) ?_; (case hd => rfl); (case hg => rfl); (case hr => first | (go_simp; done) | (go_simp; rfl)); (case hp => exact (Reps.one (show Kd.M (Kd.int .i64) _ _ _ 12 [.int .i64 12] from rfl) (Reps.one (show Kd.M (Kd.int .i64) _ _ _ 5 [.int .i64 5] from rfl) (Reps.one (show Kd.M (Kd.int .i64) _ _ _ 4 [.int .i64 4] from rfl) (Reps.none _ _))))); intro v160 w28 ho29 hb hg_ hnew_; clear hg_ hnew_; (first | rw [← Ny159.out] at ho29 | (simp only [Int.reduceToNat] at ho29; rw [← Ny159.out] at ho29)); have n0_ := Aside0.mk (Kd.R_below (by (with_reducible repeat (first | apply Kd.R_alloc | apply Kd.R_drewN | apply Kd.R_drew)); exact HO127.out) hb); have n1_ := Aside0.mk (Kd.R_below (by (with_reducible repeat (first | apply Kd.R_alloc | apply Kd.R_drewN | apply Kd.R_drew)); exact HO130.out) hb); have n2_ := Aside0.mk (Kd.R_below (by (with_reducible repeat (first | apply Kd.R_alloc | apply Kd.R_drewN | apply Kd.R_drew)); exact HO134.out) hb); have n3_ := Aside0.mk (Kd.R_below (by (with_reducible repeat (first | apply Kd.R_alloc | apply Kd.R_drewN | apply Kd.R_drew)); exact HO137.out) hb); have n4_ := Aside0.mk (Kd.R_below (by (with_reducible repeat (first | apply Kd.R_alloc | apply Kd.R_drewN | apply Kd.R_drew)); exact HO141.out) hb); have n5_ := Aside0.mk (Kd.R_below (by (with_reducible repeat (first | apply Kd.R_alloc | apply Kd.R_drewN | apply Kd.R_drew)); exact HO144.out) hb); have n6_ := Aside0.mk (Kd.R_below (by (with_reducible repeat (first | apply Kd.R_alloc | apply Kd.R_drewN | apply Kd.R_drew)); exact HO148.out) hb); have n7_ := Aside0.mk (Kd.R_below (by (with_reducible repeat (first | apply Kd.R_alloc | apply Kd.R_drewN | apply Kd.R_drew)); exact HO151.out) hb); have n8_ := Aside0.mk (Kd.R_elder' (by (with_reducible repeat (first | apply Kd.R_alloc | apply Kd.R_drewN | apply Kd.R_drew)); exact HO155.out) (Kd.R_base ho29) hb); have n9_ := Aside0.mk (Kd.R_below (by (with_reducible repeat (first | apply Kd.R_alloc | apply Kd.R_drewN | apply Kd.R_drew)); exact HO158.out) hb); have n10_ := Aside0.mk (Kd.R_lower (Kd.R_new' ho29 (Kd.R_lt (by (with_reducible repeat (first | apply Kd.R_alloc | apply Kd.R_drewN | apply Kd.R_drew)); exact HO155.out))) (below_size (by repeat (first | (with_reducible first | exact HB.out | apply below_alloc | apply pw_below_drewN | apply below_drew1) | exact HB.out)))); have n11_ := Aside0.mk (below_step (by repeat (first | (with_reducible first | exact HB.out | apply below_alloc | apply pw_below_drewN | apply below_drew1) | exact HB.out)) hb); clear HO127; clear HO130; clear HO134; clear HO137; clear HO141; clear HO144; clear HO148; clear HO151; clear HO155; clear HO158; clear HB; have HO127 := n0_; have HO130 := n1_; have HO134 := n2_; have HO137 := n3_; have HO141 := n4_; have HO144 := n5_; have HO148 := n6_; have HO151 := n7_; have HO155 := n8_; have HO158 := n9_; have HO161 := n10_; have HB := n11_; clear n0_ n1_ n2_ n3_ n4_ n5_ n6_ n7_ n8_ n9_ n10_ n11_; clear hb ho29; obtain ⟨Ao30, co30, eo30⟩ := Kd.R_slice HO158.out; subst eo30; obtain ⟨Ao31, co31, eo31⟩ := Kd.R_slice HO161.out; subst eo31) | ((with_reducible refine gate_callee (f := 16) rfl ?_); refine goesL_ (some 60) rfl rfl Try.func16 (by kernel_rfl) rfl #[.slice Ao11 y125.length co11, .slice Ao30 y156.length co30, .slice Ao31 y159.length co31] rfl (by (try simp only [List.map_toArray, List.map_cons, List.map_nil]); first | done | rfl | (simp only [List.length_drop, List.length_take]; rfl)) ?_; (with_reducible refine (flow_Consistent.calls _ _ y125 _ _ y156 _ _ y159 t162 t163 _ ?side1 ?side2 ?side3 ?side4 ?side5 ?side6 A5.out).mono ?_); (case side1 => repeat (first | exact (Kd.R_reads' HO127.out).2.2 | (with_reducible refine Kd.C_alloc ?_ _) | (with_reducible refine Kd.C_drewN ?_ _) | (with_reducible refine Kd.C_drew ?_))); (case side2 => exact (Kd.R_reads' HO127.out).2.1); (case side3 => repeat (first | exact (Kd.R_reads' HO158.out).2.2 | (with_reducible refine Kd.C_alloc ?_ _) | (with_reducible refine Kd.C_drewN ?_ _) | (with_reducible refine Kd.C_drew ?_))); (case side4 => exact (Kd.R_reads' HO158.out).2.1); (case side5 => repeat (first | exact (Kd.R_reads' HO161.out).2.2 | (with_reducible refine Kd.C_alloc ?_ _) | (with_reducible refine Kd.C_drewN ?_ _) | (with_reducible refine Kd.C_drew ?_))); (case side6 => exact (Kd.R_reads' HO161.out).2.1); rintro e w32 ⟨rfl, hb⟩; refine ⟨_, rfl, ?_⟩; have n0_ := Aside0.mk (Kd.R_below (by (with_reducible repeat (first | apply Kd.R_alloc | apply Kd.R_drewN | apply Kd.R_drew)); exact HO127.out) hb); have n1_ := Aside0.mk (Kd.R_below (by (with_reducible repeat (first | apply Kd.R_alloc | apply Kd.R_drewN | apply Kd.R_drew)); exact HO130.out) hb); have n2_ := Aside0.mk (Kd.R_below (by (with_reducible repeat (first | apply Kd.R_alloc | apply Kd.R_drewN | apply Kd.R_drew)); exact HO134.out) hb); have n3_ := Aside0.mk (Kd.R_below (by (with_reducible repeat (first | apply Kd.R_alloc | apply Kd.R_drewN | apply Kd.R_drew)); exact HO137.out) hb); have n4_ := Aside0.mk (Kd.R_below (by (with_reducible repeat (first | apply Kd.R_alloc | apply Kd.R_drewN | apply Kd.R_drew)); exact HO141.out) hb); have n5_ := Aside0.mk (Kd.R_below (by (with_reducible repeat (first | apply Kd.R_alloc | apply Kd.R_drewN | apply Kd.R_drew)); exact HO144.out) hb); have n6_ := Aside0.mk (Kd.R_below (by (with_reducible repeat (first | apply Kd.R_alloc | apply Kd.R_drewN | apply Kd.R_drew)); exact HO148.out) hb); have n7_ := Aside0.mk (Kd.R_below (by (with_reducible repeat (first | apply Kd.R_alloc | apply Kd.R_drewN | apply Kd.R_drew)); exact HO151.out) hb); have n8_ := Aside0.mk (Kd.R_below (by (with_reducible repeat (first | apply Kd.R_alloc | apply Kd.R_drewN | apply Kd.R_drew)); exact HO155.out) hb); have n9_ := Aside0.mk (Kd.R_below (by (with_reducible repeat (first | apply Kd.R_alloc | apply Kd.R_drewN | apply Kd.R_drew)); exact HO158.out) hb); have n10_ := Aside0.mk (Kd.R_below (by (with_reducible repeat (first | apply Kd.R_alloc | apply Kd.R_drewN | apply Kd.R_drew)); exact HO161.out) hb); have n11_ := Aside0.mk (below_step (by repeat (first | (with_reducible first | exact HB.out | apply below_alloc | apply pw_below_drewN | apply below_drew1) | exact HB.out)) hb); clear HO127; clear HO130; clear HO134; clear HO137; clear HO141; clear HO144; clear HO148; clear HO151; clear HO155; clear HO158; clear HO161; clear HB; have HO127 := n0_; have HO130 := n1_; have HO134 := n2_; have HO137 := n3_; have HO141 := n4_; have HO144 := n5_; have HO148 := n6_; have HO151 := n7_; have HO155 := n8_; have HO158 := n9_; have HO161 := n10_; have HB := n11_; clear n0_ n1_ n2_ n3_ n4_ n5_ n6_ n7_ n8_ n9_ n10_ n11_; (try clear hb); (try clear hb2); (try clear hk); (try clear hi)))
 (try simp only [Act.put, sI_, s0_, sS_])
 go_cut [12] (fun v12 wc => ∃ (kq : Nat) (x12_5 : Bool), v12 = .bool x12_5 ∧ Aside0 (cohousinglaw28_head.j0 kq y125 t131 t138 x12_5 = some r) ∧ Aside0 (kq ≤ k) ∧ Aside0 (Kd.R k44 44 wc w.heap.size (fun _ => True) (.slice Ao11 y125.length co11) y125) ∧ Aside0 (Kd.R k39 39 wc w.heap.size (fun k_ => some k_ ≠ (v140 : Value).ownBlock) v133 t131) ∧ Aside0 (Kd.R k39 39 wc w.heap.size (fun k_ => some k_ ≠ (v133 : Value).ownBlock) v140 t138) ∧ Aside0 (Below w.heap.size w wc))
 case first =>
  have H := HC6.out
  clear HC6
  by_cases c33 : t132 = 0
  ·rw [if_pos c33] at H
   have c33b0 : (t132 == 0) = true := beq_iff_eq.mpr c33
   have c33b1 : (t132 != 0) = false := bne_eq_false_iff_eq.mpr c33
   clear c33
   (first | rw [c33b0] | (simp only [i64_w, i32_w]; rw [c33b0]) | skip)
   by_cases c34 : t139 = 0
   ·rw [if_pos c34] at H
    have c34b0 : (t139 == 0) = true := beq_iff_eq.mpr c34
    have c34b1 : (t139 != 0) = false := bne_eq_false_iff_eq.mpr c34
    clear c34
    by_cases c35 : t146 = 30
    ·rw [if_pos c35] at H
     have c35b0 : (t146 == 30) = true := beq_iff_eq.mpr c35
     have c35b1 : (t146 != 30) = false := bne_eq_false_iff_eq.mpr c35
     clear c35
     by_cases c36 : t153 = 0
     ·rw [if_pos c36] at H
      have c36b0 : (t153 == 0) = true := beq_iff_eq.mpr c36
      have c36b1 : (t153 != 0) = false := bne_eq_false_iff_eq.mpr c36
      clear c36
      by_cases c37 : t163 = 0
      ·rw [if_pos c37] at H
       have c37b0 : (t163 == 0) = true := beq_iff_eq.mpr c37
       have c37b1 : (t163 != 0) = false := bne_eq_false_iff_eq.mpr c37
       clear c37
       by_cases c38 : t162 = true
       ·subst c38
        have H1 : (cohousinglaw28_head.j0 k y125 t131 t138 false) = some r := by rw [if_pos rfl] at H; exact H
        clear H
        have H := H1
        clear H1
        have H' := Aside0.mk H
        clear H
        go_wp2
        go_meet
        case rel => exact ⟨_, (false), (by first | rfl | (simp; done) | (simp [*]; done)), H', ⟨by first | omega | exact Nat.le_refl _⟩, ⟨by (with_reducible repeat (first | apply Kd.R_alloc | apply Kd.R_drewN | apply Kd.R_drew)); exact HO127.out⟩, ⟨by (with_reducible repeat (first | apply Kd.R_alloc | apply Kd.R_drewN | apply Kd.R_drew)); exact Kd.R_mono HO134.out (fun _ hk => hk.1.1.1.1.2)⟩, ⟨by (with_reducible repeat (first | apply Kd.R_alloc | apply Kd.R_drewN | apply Kd.R_drew)); exact Kd.R_mono HO141.out (fun _ hk => hk.1.1.1.1.1.2)⟩, ⟨by repeat (first | (with_reducible first | exact HB.out | apply below_alloc | apply pw_below_drewN | apply below_drew1) | exact HB.out)⟩⟩
       ·replace c38 := Bool.eq_false_iff.mpr c38
        subst c38
        have H1 : ((cohousingref02_Same.f k t152 (([10, 3, 5] : List Int))).bind fun t167 => (cohousinglaw28_head.j0 k y125 t131 t138 t167)) = some r := by rw [if_neg (show ¬ (false = true) by decide)] at H; exact H
        clear H
        have H := H1
        clear H1
        obtain ⟨y164, hy164⟩ : ∃ y_ : List Int, y_ = (([10, 3, 5] : List Int)) := ⟨_, rfl⟩
        replace H : ((cohousingref02_Same.f k t152 y164).bind fun t167 => (cohousinglaw28_head.j0 k y125 t131 t138 t167)) = some r := by first | (rw [hy164]; with_reducible exact H) | (have H2_ := (Option.bind_some _ _).symm.trans H; rw [hy164]; with_reducible exact H2_) | (have H2_ := (Option.bind_some _ _).symm.trans H; with_reducible exact H2_) | with_reducible exact H | (rw [hy164]; exact H) | exact H
        have Ny164 := Aside0.mk hy164
        clear hy164
        replace H := Option.bind_eq_some_iff.mp H
        obtain ⟨t167, A390, H⟩ := H
        replace H : (cohousinglaw28_head.j0 k y125 t131 t138 t167) = some r := H
        have A39 := Aside0.mk A390
        clear A390
        have H' := Aside0.mk H
        clear H
        go_wp2_with (first | ((with_reducible refine gate_dst (N := 87) rfl ?_); (try (refine gate_guard (by rfl) ?_; dsimp only)); refine Kd.R_lit (Kd.int .i64) _ 3 ?hg (N := 87) ?hd (xs := ([10, 3, 5] : List Int)) (inner := [.int .i64 10, .int .i64 3, .int .i64 5]) (ok := fun _ => True) (okp := fun _ => True) ?hr ?hp (fun _ hk => hk) trivial (Below.refl _ _) (Nat.le_refl _) (by simp) ?_; (case hd => rfl); (case hg => rfl); (case hr => first | (go_simp; done) | (go_simp; rfl)); (case hp => exact (Reps.one (show Kd.M (Kd.int .i64) _ _ _ 10 [.int .i64 10] from rfl) (Reps.one (show Kd.M (Kd.int .i64) _ _ _ 3 [.int .i64 3] from rfl) (Reps.one (show Kd.M (Kd.int .i64) _ _ _ 5 [.int .i64 5] from rfl) (Reps.none _ _))))); intro v165 w40 ho41 hb hg_ hnew_; clear hg_ hnew_; (first | rw [← Ny164.out] at ho41 | (simp only [Int.reduceToNat] at ho41; rw [← Ny164.out] at ho41)); have n0_ := Aside0.mk (Kd.R_below (by (with_reducible repeat (first | apply Kd.R_alloc | apply Kd.R_drewN | apply Kd.R_drew)); exact HO127.out) hb); have n1_ := Aside0.mk (Kd.R_below (by (with_reducible repeat (first | apply Kd.R_alloc | apply Kd.R_drewN | apply Kd.R_drew)); exact HO130.out) hb); have n2_ := Aside0.mk (Kd.R_below (by (with_reducible repeat (first | apply Kd.R_alloc | apply Kd.R_drewN | apply Kd.R_drew)); exact HO134.out) hb); have n3_ := Aside0.mk (Kd.R_below (by (with_reducible repeat (first | apply Kd.R_alloc | apply Kd.R_drewN | apply Kd.R_drew)); exact HO137.out) hb); have n4_ := Aside0.mk (Kd.R_below (by (with_reducible repeat (first | apply Kd.R_alloc | apply Kd.R_drewN | apply Kd.R_drew)); exact HO141.out) hb); have n5_ := Aside0.mk (Kd.R_below (by (with_reducible repeat (first | apply Kd.R_alloc | apply Kd.R_drewN | apply Kd.R_drew)); exact HO144.out) hb); have n6_ := Aside0.mk (Kd.R_below (by (with_reducible repeat (first | apply Kd.R_alloc | apply Kd.R_drewN | apply Kd.R_drew)); exact HO148.out) hb); have n7_ := Aside0.mk (Kd.R_below (by (with_reducible repeat (first | apply Kd.R_alloc | apply Kd.R_drewN | apply Kd.R_drew)); exact HO151.out) hb); have n8_ := Aside0.mk (Kd.R_elder' (by (with_reducible repeat (first | apply Kd.R_alloc | apply Kd.R_drewN | apply Kd.R_drew)); exact HO155.out) (Kd.R_base ho41) hb); have n9_ := Aside0.mk (Kd.R_below (by (with_reducible repeat (first | apply Kd.R_alloc | apply Kd.R_drewN | apply Kd.R_drew)); exact HO158.out) hb); have n10_ := Aside0.mk (Kd.R_elder' (by (with_reducible repeat (first | apply Kd.R_alloc | apply Kd.R_drewN | apply Kd.R_drew)); exact HO161.out) (Kd.R_base ho41) hb); have n11_ := Aside0.mk (Kd.R_lower (Kd.R_new' (Kd.R_new' ho41 (Kd.R_lt (by (with_reducible repeat (first | apply Kd.R_alloc | apply Kd.R_drewN | apply Kd.R_drew)); exact HO155.out))) (Kd.R_lt (by (with_reducible repeat (first | apply Kd.R_alloc | apply Kd.R_drewN | apply Kd.R_drew)); exact HO161.out))) (below_size (by repeat (first | (with_reducible first | exact HB.out | apply below_alloc | apply pw_below_drewN | apply below_drew1) | exact HB.out)))); have n12_ := Aside0.mk (below_step (by repeat (first | (with_reducible first | exact HB.out | apply below_alloc | apply pw_below_drewN | apply below_drew1) | exact HB.out)) hb); clear HO127; clear HO130; clear HO134; clear HO137; clear HO141; clear HO144; clear HO148; clear HO151; clear HO155; clear HO158; clear HO161; clear HB; have HO127 := n0_; have HO130 := n1_; have HO134 := n2_; have HO137 := n3_; have HO141 := n4_; have HO144 := n5_; have HO148 := n6_; have HO151 := n7_; have HO155 := n8_; have HO158 := n9_; have HO161 := n10_; have HO166 := n11_; have HB := n12_; clear n0_ n1_ n2_ n3_ n4_ n5_ n6_ n7_ n8_ n9_ n10_ n11_ n12_; clear hb ho41; obtain ⟨Ao42, co42, eo42⟩ := Kd.R_slice HO155.out; subst eo42; obtain ⟨Ao43, co43, eo43⟩ := Kd.R_slice HO166.out; subst eo43) | (go_at_call 20; (with_reducible refine (cohousingref02_Same.calls k _ _ t152 _ _ y164 t167 _ ?side1 ?side2 ?side3 ?side4 A39.out).mono ?_); (case side1 => repeat (first | exact (Kd.R_reads' HO155.out).2.2 | (with_reducible refine Kd.C_alloc ?_ _) | (with_reducible refine Kd.C_drewN ?_ _) | (with_reducible refine Kd.C_drew ?_))); (case side2 => exact (Kd.R_reads' HO155.out).2.1); (case side3 => repeat (first | exact (Kd.R_reads' HO166.out).2.2 | (with_reducible refine Kd.C_alloc ?_ _) | (with_reducible refine Kd.C_drewN ?_ _) | (with_reducible refine Kd.C_drew ?_))); (case side4 => exact (Kd.R_reads' HO166.out).2.1); rintro e w' ⟨rfl, ⟨nd, rfl⟩⟩))
        go_meet
        case rel => exact ⟨_, (t167), (by first | rfl | (simp; done) | (simp [*]; done)), H', ⟨by first | omega | exact Nat.le_refl _⟩, ⟨by (with_reducible repeat (first | apply Kd.R_alloc | apply Kd.R_drewN | apply Kd.R_drew)); exact HO127.out⟩, ⟨by (with_reducible repeat (first | apply Kd.R_alloc | apply Kd.R_drewN | apply Kd.R_drew)); exact Kd.R_mono HO134.out (fun _ hk => hk.1.1.1.1.2)⟩, ⟨by (with_reducible repeat (first | apply Kd.R_alloc | apply Kd.R_drewN | apply Kd.R_drew)); exact Kd.R_mono HO141.out (fun _ hk => hk.1.1.1.1.1.2)⟩, ⟨by repeat (first | (with_reducible first | exact HB.out | apply below_alloc | apply pw_below_drewN | apply below_drew1) | exact HB.out)⟩⟩
      ·rw [if_neg c37] at H
       have c37b0 : (t163 == 0) = false := beq_eq_false_iff_ne.mpr c37
       have c37b1 : (t163 != 0) = true := bne_iff_ne.mpr c37
       have H' := Aside0.mk H
       clear H
       go_wp2
       go_meet
       case rel => exact ⟨_, (false), (by first | rfl | (simp; done) | (simp [*]; done)), H', ⟨by first | omega | exact Nat.le_refl _⟩, ⟨by (with_reducible repeat (first | apply Kd.R_alloc | apply Kd.R_drewN | apply Kd.R_drew)); exact HO127.out⟩, ⟨by (with_reducible repeat (first | apply Kd.R_alloc | apply Kd.R_drewN | apply Kd.R_drew)); exact Kd.R_mono HO134.out (fun _ hk => hk.1.1.1.1.2)⟩, ⟨by (with_reducible repeat (first | apply Kd.R_alloc | apply Kd.R_drewN | apply Kd.R_drew)); exact Kd.R_mono HO141.out (fun _ hk => hk.1.1.1.1.1.2)⟩, ⟨by repeat (first | (with_reducible first | exact HB.out | apply below_alloc | apply pw_below_drewN | apply below_drew1) | exact HB.out)⟩⟩
     ·rw [if_neg c36] at H
      have c36b0 : (t153 == 0) = false := beq_eq_false_iff_ne.mpr c36
      have c36b1 : (t153 != 0) = true := bne_iff_ne.mpr c36
      have H' := Aside0.mk H
      clear H
      go_wp2
      go_meet
      case rel => exact ⟨_, (false), (by first | rfl | (simp; done) | (simp [*]; done)), H', ⟨by first | omega | exact Nat.le_refl _⟩, ⟨by (with_reducible repeat (first | apply Kd.R_alloc | apply Kd.R_drewN | apply Kd.R_drew)); exact HO127.out⟩, ⟨by (with_reducible repeat (first | apply Kd.R_alloc | apply Kd.R_drewN | apply Kd.R_drew)); exact Kd.R_mono HO134.out (fun _ hk => hk.1.1.1.1.2)⟩, ⟨by (with_reducible repeat (first | apply Kd.R_alloc | apply Kd.R_drewN | apply Kd.R_drew)); exact Kd.R_mono HO141.out (fun _ hk => hk.1.1.1.1.1.2)⟩, ⟨by repeat (first | (with_reducible first | exact HB.out | apply below_alloc | apply pw_below_drewN | apply below_drew1) | exact HB.out)⟩⟩
    ·rw [if_neg c35] at H
     have c35b0 : (t146 == 30) = false := beq_eq_false_iff_ne.mpr c35
     have c35b1 : (t146 != 30) = true := bne_iff_ne.mpr c35
     have H' := Aside0.mk H
     clear H
     go_wp2
     go_meet
     case rel => exact ⟨_, (false), (by first | rfl | (simp; done) | (simp [*]; done)), H', ⟨by first | omega | exact Nat.le_refl _⟩, ⟨by (with_reducible repeat (first | apply Kd.R_alloc | apply Kd.R_drewN | apply Kd.R_drew)); exact HO127.out⟩, ⟨by (with_reducible repeat (first | apply Kd.R_alloc | apply Kd.R_drewN | apply Kd.R_drew)); exact Kd.R_mono HO134.out (fun _ hk => hk.1.1.1.1.2)⟩, ⟨by (with_reducible repeat (first | apply Kd.R_alloc | apply Kd.R_drewN | apply Kd.R_drew)); exact Kd.R_mono HO141.out (fun _ hk => hk.1.1.1.1.1.2)⟩, ⟨by repeat (first | (with_reducible first | exact HB.out | apply below_alloc | apply pw_below_drewN | apply below_drew1) | exact HB.out)⟩⟩
   ·rw [if_neg c34] at H
    have c34b0 : (t139 == 0) = false := beq_eq_false_iff_ne.mpr c34
    have c34b1 : (t139 != 0) = true := bne_iff_ne.mpr c34
    have H' := Aside0.mk H
    clear H
    go_wp2
    go_meet
    case rel => exact ⟨_, (false), (by first | rfl | (simp; done) | (simp [*]; done)), H', ⟨by first | omega | exact Nat.le_refl _⟩, ⟨by (with_reducible repeat (first | apply Kd.R_alloc | apply Kd.R_drewN | apply Kd.R_drew)); exact HO127.out⟩, ⟨by (with_reducible repeat (first | apply Kd.R_alloc | apply Kd.R_drewN | apply Kd.R_drew)); exact Kd.R_mono HO134.out (fun _ hk => hk.1.1.1.1.2)⟩, ⟨by (with_reducible repeat (first | apply Kd.R_alloc | apply Kd.R_drewN | apply Kd.R_drew)); exact Kd.R_mono HO141.out (fun _ hk => hk.1.1.1.1.1.2)⟩, ⟨by repeat (first | (with_reducible first | exact HB.out | apply below_alloc | apply pw_below_drewN | apply below_drew1) | exact HB.out)⟩⟩
  ·rw [if_neg c33] at H
   have c33b0 : (t132 == 0) = false := beq_eq_false_iff_ne.mpr c33
   have c33b1 : (t132 != 0) = true := bne_iff_ne.mpr c33
   (first | rw [c33b0] | (simp only [i64_w, i32_w]; rw [c33b0]) | skip)
   have H' := Aside0.mk H
   clear H
   go_wp2
   go_meet
   case rel => exact ⟨_, (false), (by first | rfl | (simp; done) | (simp [*]; done)), H', ⟨by first | omega | exact Nat.le_refl _⟩, ⟨by (with_reducible repeat (first | apply Kd.R_alloc | apply Kd.R_drewN | apply Kd.R_drew)); exact HO127.out⟩, ⟨by (with_reducible repeat (first | apply Kd.R_alloc | apply Kd.R_drewN | apply Kd.R_drew)); exact Kd.R_mono HO134.out (fun _ hk => hk.1.1.1.1.2)⟩, ⟨by (with_reducible repeat (first | apply Kd.R_alloc | apply Kd.R_drewN | apply Kd.R_drew)); exact Kd.R_mono HO141.out (fun _ hk => hk.1.1.1.1.1.2)⟩, ⟨by repeat (first | (with_reducible first | exact HB.out | apply below_alloc | apply pw_below_drewN | apply below_drew1) | exact HB.out)⟩⟩
 case rest =>
  clear HC6
  try clear c1
  try clear c2
  try clear p2
  try clear c3
  try clear c10
  try clear c11
  try clear c16
  try clear c18
  try clear c33
  try clear c33b0
  try clear c33b1
  try clear c34
  try clear c34b0
  try clear c34b1
  try clear c35
  try clear c35b0
  try clear c35b1
  try clear c36
  try clear c36b0
  try clear c36b1
  try clear c37
  try clear c37b0
  try clear c37b1
  try clear c38
  obtain ⟨kq, x12_5, rfl, HA, HJ5, HO_1, HO_2, HO_4, HB⟩ := hcut
  cases kq with
  | zero => exact absurd HA.out (by simp [cohousinglaw28_head.j0])
  | succ kj5 =>
   have H := HA.out
   clear HA
   simp only [cohousinglaw28_head.j0] at H
   by_cases c44 : x12_5 = true
   ·subst c44
    have H1 : ((cohousingref28_Same.f kj5 t131 (([(⟨10, 10⟩ : S39), (⟨3, 5⟩ : S39), (⟨3, 7⟩ : S39)] : List (S39)))).bind fun t171 => (if t171 = true then ((cohousingref28_Same.f kj5 t138 (([(⟨7, 11⟩ : S39), (⟨3, 5⟩ : S39), (⟨4, 4⟩ : S39)] : List (S39)))).bind fun t175 => (if t175 = true then ((flow_Valid.f y125).bind fun t176 => (if t176 = true then ((flow_Valid.f (([(⟨1, 1, 0⟩ : S44)] : List (S44)))).bind fun t180 => (some (!t180))) else (some false))) else (some false))) else (some false))) = some r := by rw [if_pos rfl] at H; exact H
    clear H
    have H := H1
    clear H1
    obtain ⟨y168, hy168⟩ : ∃ y_ : List (S39), y_ = (([(⟨10, 10⟩ : S39), (⟨3, 5⟩ : S39), (⟨3, 7⟩ : S39)] : List (S39))) := ⟨_, rfl⟩
    replace H : ((cohousingref28_Same.f kj5 t131 y168).bind fun t171 => (if t171 = true then ((cohousingref28_Same.f kj5 t138 (([(⟨7, 11⟩ : S39), (⟨3, 5⟩ : S39), (⟨4, 4⟩ : S39)] : List (S39)))).bind fun t175 => (if t175 = true then ((flow_Valid.f y125).bind fun t176 => (if t176 = true then ((flow_Valid.f (([(⟨1, 1, 0⟩ : S44)] : List (S44)))).bind fun t180 => (some (!t180))) else (some false))) else (some false))) else (some false))) = some r := by first | (rw [hy168]; with_reducible exact H) | (have H2_ := (Option.bind_some _ _).symm.trans H; rw [hy168]; with_reducible exact H2_) | (have H2_ := (Option.bind_some _ _).symm.trans H; with_reducible exact H2_) | with_reducible exact H | (rw [hy168]; exact H) | exact H
    have Ny168 := Aside0.mk hy168
    clear hy168
    replace H := Option.bind_eq_some_iff.mp H
    obtain ⟨t171, A450, H⟩ := H
    replace H : (if t171 = true then ((cohousingref28_Same.f kj5 t138 (([(⟨7, 11⟩ : S39), (⟨3, 5⟩ : S39), (⟨4, 4⟩ : S39)] : List (S39)))).bind fun t175 => (if t175 = true then ((flow_Valid.f y125).bind fun t176 => (if t176 = true then ((flow_Valid.f (([(⟨1, 1, 0⟩ : S44)] : List (S44)))).bind fun t180 => (some (!t180))) else (some false))) else (some false))) else (some false)) = some r := H
    have A45 := Aside0.mk A450
    clear A450
    by_cases c46 : t171 = true
    ·subst c46
     have H1 : ((cohousingref28_Same.f kj5 t138 (([(⟨7, 11⟩ : S39), (⟨3, 5⟩ : S39), (⟨4, 4⟩ : S39)] : List (S39)))).bind fun t175 => (if t175 = true then ((flow_Valid.f y125).bind fun t176 => (if t176 = true then ((flow_Valid.f (([(⟨1, 1, 0⟩ : S44)] : List (S44)))).bind fun t180 => (some (!t180))) else (some false))) else (some false))) = some r := by rw [if_pos rfl] at H; exact H
     clear H
     have H := H1
     clear H1
     obtain ⟨y172, hy172⟩ : ∃ y_ : List (S39), y_ = (([(⟨7, 11⟩ : S39), (⟨3, 5⟩ : S39), (⟨4, 4⟩ : S39)] : List (S39))) := ⟨_, rfl⟩
     replace H : ((cohousingref28_Same.f kj5 t138 y172).bind fun t175 => (if t175 = true then ((flow_Valid.f y125).bind fun t176 => (if t176 = true then ((flow_Valid.f (([(⟨1, 1, 0⟩ : S44)] : List (S44)))).bind fun t180 => (some (!t180))) else (some false))) else (some false))) = some r := by first | (rw [hy172]; with_reducible exact H) | (have H2_ := (Option.bind_some _ _).symm.trans H; rw [hy172]; with_reducible exact H2_) | (have H2_ := (Option.bind_some _ _).symm.trans H; with_reducible exact H2_) | with_reducible exact H | (rw [hy172]; exact H) | exact H
     have Ny172 := Aside0.mk hy172
     clear hy172
     replace H := Option.bind_eq_some_iff.mp H
     obtain ⟨t175, A470, H⟩ := H
     replace H : (if t175 = true then ((flow_Valid.f y125).bind fun t176 => (if t176 = true then ((flow_Valid.f (([(⟨1, 1, 0⟩ : S44)] : List (S44)))).bind fun t180 => (some (!t180))) else (some false))) else (some false)) = some r := H
     have A47 := Aside0.mk A470
     clear A470
     by_cases c48 : t175 = true
     ·subst c48
      have H1 : ((flow_Valid.f y125).bind fun t176 => (if t176 = true then ((flow_Valid.f (([(⟨1, 1, 0⟩ : S44)] : List (S44)))).bind fun t180 => (some (!t180))) else (some false))) = some r := by rw [if_pos rfl] at H; exact H
      clear H
      have H := H1
      clear H1
      replace H := Option.bind_eq_some_iff.mp H
      obtain ⟨t176, A490, H⟩ := H
      replace H : (if t176 = true then ((flow_Valid.f (([(⟨1, 1, 0⟩ : S44)] : List (S44)))).bind fun t180 => (some (!t180))) else (some false)) = some r := H
      have A49 := Aside0.mk A490
      clear A490
      by_cases c50 : t176 = true
      ·subst c50
       have H1 : ((flow_Valid.f (([(⟨1, 1, 0⟩ : S44)] : List (S44)))).bind fun t180 => (some (!t180))) = some r := by rw [if_pos rfl] at H; exact H
       clear H
       have H := H1
       clear H1
       obtain ⟨y177, hy177⟩ : ∃ y_ : List (S44), y_ = (([(⟨1, 1, 0⟩ : S44)] : List (S44))) := ⟨_, rfl⟩
       replace H : ((flow_Valid.f y177).bind fun t180 => (some (!t180))) = some r := by first | (rw [hy177]; with_reducible exact H) | (have H2_ := (Option.bind_some _ _).symm.trans H; rw [hy177]; with_reducible exact H2_) | (have H2_ := (Option.bind_some _ _).symm.trans H; with_reducible exact H2_) | with_reducible exact H | (rw [hy177]; exact H) | exact H
       have Ny177 := Aside0.mk hy177
       clear hy177
       replace H := Option.bind_eq_some_iff.mp H
       obtain ⟨t180, A510, H⟩ := H
       replace H : (some (!t180)) = some r := H
       have A51 := Aside0.mk A510
       clear A510
       obtain rfl := Option.some.inj H
       go_wp2_with (first | ((with_reducible refine gate_dst (N := 96) rfl ?_); (try (refine gate_guard (by rfl) ?_; dsimp only)); refine Kd.R_lit k39 _ 39 ?hg (N := 96) ?hd (xs := ([(⟨10, 10⟩ : S39), (⟨3, 5⟩ : S39), (⟨3, 7⟩ : S39)] : List (S39))) (inner := [.int .i64 10, .int .i64 10, .int .i64 3, .int .i64 5, .int .i64 3, .int .i64 7]) (ok := fun _ => True) (okp := fun _ => True) ?hr ?hp (fun _ hk => hk) trivial (Below.refl _ _) (Nat.le_refl _) (by simp) ?_; (case hd => rfl); (case hg => rfl); (case hr => first | (go_simp; done) | (go_simp; rfl)); (case hp => exact (Reps.c2 (show Kd.M k39 _ _ _ (⟨10, 10⟩ : S39) [.int .i64 10, .int .i64 10] from (k39_mkM _ _ _ (⟨10, 10⟩ : S39) )) (Reps.c2 (show Kd.M k39 _ _ _ (⟨3, 5⟩ : S39) [.int .i64 3, .int .i64 5] from (k39_mkM _ _ _ (⟨3, 5⟩ : S39) )) (Reps.c2 (show Kd.M k39 _ _ _ (⟨3, 7⟩ : S39) [.int .i64 3, .int .i64 7] from (k39_mkM _ _ _ (⟨3, 7⟩ : S39) )) (Reps.none _ _))))); intro v169 w52 ho53 hb hg_ hnew_; clear hg_ hnew_; (first | rw [← Ny168.out] at ho53 | (simp only [Int.reduceToNat] at ho53; rw [← Ny168.out] at ho53)); have n0_ := Aside0.mk (Kd.R_below (by (with_reducible repeat (first | apply Kd.R_alloc | apply Kd.R_drewN | apply Kd.R_drew)); exact HO_1.out) hb); have n1_ := Aside0.mk (Kd.R_elder' (by (with_reducible repeat (first | apply Kd.R_alloc | apply Kd.R_drewN | apply Kd.R_drew)); exact HO_2.out) (Kd.R_base ho53) hb); have n2_ := Aside0.mk (Kd.R_elder' (by (with_reducible repeat (first | apply Kd.R_alloc | apply Kd.R_drewN | apply Kd.R_drew)); exact HO_4.out) (Kd.R_base ho53) hb); have n3_ := Aside0.mk (Kd.R_lower (Kd.R_new' (Kd.R_new' ho53 (Kd.R_lt (by (with_reducible repeat (first | apply Kd.R_alloc | apply Kd.R_drewN | apply Kd.R_drew)); exact HO_2.out))) (Kd.R_lt (by (with_reducible repeat (first | apply Kd.R_alloc | apply Kd.R_drewN | apply Kd.R_drew)); exact HO_4.out))) (below_size (by repeat (first | (with_reducible first | exact HB.out | apply below_alloc | apply pw_below_drewN | apply below_drew1) | exact HB.out)))); have n4_ := Aside0.mk (below_step (by repeat (first | (with_reducible first | exact HB.out | apply below_alloc | apply pw_below_drewN | apply below_drew1) | exact HB.out)) hb); clear HO_1; clear HO_2; clear HO_4; clear HB; have HO_1 := n0_; have HO_2 := n1_; have HO_4 := n2_; have HO170 := n3_; have HB := n4_; clear n0_ n1_ n2_ n3_ n4_; clear hb ho53; obtain ⟨Ao54, co54, eo54⟩ := Kd.R_slice HO_2.out; subst eo54; obtain ⟨Ao55, co55, eo55⟩ := Kd.R_slice HO170.out; subst eo55) | (go_at_call 15; (with_reducible refine (cohousingref28_Same.calls kj5 _ _ t131 _ _ y168 true _ ?side1 ?side2 ?side3 ?side4 A45.out).mono ?_); (case side1 => repeat (first | exact (Kd.R_reads' HO_2.out).2.2 | (with_reducible refine Kd.C_alloc ?_ _) | (with_reducible refine Kd.C_drewN ?_ _) | (with_reducible refine Kd.C_drew ?_))); (case side2 => exact (Kd.R_reads' HO_2.out).2.1); (case side3 => repeat (first | exact (Kd.R_reads' HO170.out).2.2 | (with_reducible refine Kd.C_alloc ?_ _) | (with_reducible refine Kd.C_drewN ?_ _) | (with_reducible refine Kd.C_drew ?_))); (case side4 => exact (Kd.R_reads' HO170.out).2.1); rintro e w' ⟨rfl, ⟨nd, rfl⟩⟩) | ((with_reducible refine gate_dst (N := 104) rfl ?_); (try (refine gate_guard (by rfl) ?_; dsimp only)); refine Kd.R_lit k39 _ 39 ?hg (N := 104) ?hd (xs := ([(⟨7, 11⟩ : S39), (⟨3, 5⟩ : S39), (⟨4, 4⟩ : S39)] : List (S39))) (inner := [.int .i64 7, .int .i64 11, .int .i64 3, .int .i64 5, .int .i64 4, .int .i64 4]) (ok := fun _ => True) (okp := fun _ => True) ?hr ?hp (fun _ hk => hk) trivial (Below.refl _ _) (Nat.le_refl _) (by simp) ?_; (case hd => rfl); (case hg => rfl); (case hr => first | (go_simp; done) | (go_simp; rfl)); (case hp => exact (Reps.c2 (show Kd.M k39 _ _ _ (⟨7, 11⟩ : S39) [.int .i64 7, .int .i64 11] from (k39_mkM _ _ _ (⟨7, 11⟩ : S39) )) (Reps.c2 (show Kd.M k39 _ _ _ (⟨3, 5⟩ : S39) [.int .i64 3, .int .i64 5] from (k39_mkM _ _ _ (⟨3, 5⟩ : S39) )) (Reps.c2 (show Kd.M k39 _ _ _ (⟨4, 4⟩ : S39) [.int .i64 4, .int .i64 4] from (k39_mkM _ _ _ (⟨4, 4⟩ : S39) )) (Reps.none _ _))))); intro v173 w56 ho57 hb hg_ hnew_; clear hg_ hnew_; (first | rw [← Ny172.out] at ho57 | (simp only [Int.reduceToNat] at ho57; rw [← Ny172.out] at ho57)); have n0_ := Aside0.mk (Kd.R_below (by (with_reducible repeat (first | apply Kd.R_alloc | apply Kd.R_drewN | apply Kd.R_drew)); exact HO_1.out) hb); have n1_ := Aside0.mk (Kd.R_elder' (by (with_reducible repeat (first | apply Kd.R_alloc | apply Kd.R_drewN | apply Kd.R_drew)); exact HO_2.out) (Kd.R_base ho57) hb); have n2_ := Aside0.mk (Kd.R_elder' (by (with_reducible repeat (first | apply Kd.R_alloc | apply Kd.R_drewN | apply Kd.R_drew)); exact HO_4.out) (Kd.R_base ho57) hb); have n3_ := Aside0.mk (Kd.R_elder' (by (with_reducible repeat (first | apply Kd.R_alloc | apply Kd.R_drewN | apply Kd.R_drew)); exact HO170.out) (Kd.R_base ho57) hb); have n4_ := Aside0.mk (Kd.R_lower (Kd.R_new' (Kd.R_new' (Kd.R_new' ho57 (Kd.R_lt (by (with_reducible repeat (first | apply Kd.R_alloc | apply Kd.R_drewN | apply Kd.R_drew)); exact HO_2.out))) (Kd.R_lt (by (with_reducible repeat (first | apply Kd.R_alloc | apply Kd.R_drewN | apply Kd.R_drew)); exact HO_4.out))) (Kd.R_lt (by (with_reducible repeat (first | apply Kd.R_alloc | apply Kd.R_drewN | apply Kd.R_drew)); exact HO170.out))) (below_size (by repeat (first | (with_reducible first | exact HB.out | apply below_alloc | apply pw_below_drewN | apply below_drew1) | exact HB.out)))); have n5_ := Aside0.mk (below_step (by repeat (first | (with_reducible first | exact HB.out | apply below_alloc | apply pw_below_drewN | apply below_drew1) | exact HB.out)) hb); clear HO_1; clear HO_2; clear HO_4; clear HO170; clear HB; have HO_1 := n0_; have HO_2 := n1_; have HO_4 := n2_; have HO170 := n3_; have HO174 := n4_; have HB := n5_; clear n0_ n1_ n2_ n3_ n4_ n5_; clear hb ho57; obtain ⟨Ao58, co58, eo58⟩ := Kd.R_slice HO_4.out; subst eo58; obtain ⟨Ao59, co59, eo59⟩ := Kd.R_slice HO174.out; subst eo59) | (go_at_call 15; (with_reducible refine (cohousingref28_Same.calls kj5 _ _ t138 _ _ y172 true _ ?side1 ?side2 ?side3 ?side4 A47.out).mono ?_); (case side1 => repeat (first | exact (Kd.R_reads' HO_4.out).2.2 | (with_reducible refine Kd.C_alloc ?_ _) | (with_reducible refine Kd.C_drewN ?_ _) | (with_reducible refine Kd.C_drew ?_))); (case side2 => exact (Kd.R_reads' HO_4.out).2.1); (case side3 => repeat (first | exact (Kd.R_reads' HO174.out).2.2 | (with_reducible refine Kd.C_alloc ?_ _) | (with_reducible refine Kd.C_drewN ?_ _) | (with_reducible refine Kd.C_drew ?_))); (case side4 => exact (Kd.R_reads' HO174.out).2.1); rintro e w' ⟨rfl, ⟨nd, rfl⟩⟩) | (go_at_call 13; (with_reducible refine (flow_Valid.calls _ _ y125 true _ ?side1 ?side2 A49.out).mono ?_); (case side1 => repeat (first | exact (Kd.R_reads' HO_1.out).2.2 | (with_reducible refine Kd.C_alloc ?_ _) | (with_reducible refine Kd.C_drewN ?_ _) | (with_reducible refine Kd.C_drew ?_))); (case side2 => exact (Kd.R_reads' HO_1.out).2.1); rintro e w60 ⟨rfl, hb⟩; have n0_ := Aside0.mk (Kd.R_below (by (with_reducible repeat (first | apply Kd.R_alloc | apply Kd.R_drewN | apply Kd.R_drew)); exact HO_1.out) hb); have n1_ := Aside0.mk (Kd.R_below (by (with_reducible repeat (first | apply Kd.R_alloc | apply Kd.R_drewN | apply Kd.R_drew)); exact HO_2.out) hb); have n2_ := Aside0.mk (Kd.R_below (by (with_reducible repeat (first | apply Kd.R_alloc | apply Kd.R_drewN | apply Kd.R_drew)); exact HO_4.out) hb); have n3_ := Aside0.mk (Kd.R_below (by (with_reducible repeat (first | apply Kd.R_alloc | apply Kd.R_drewN | apply Kd.R_drew)); exact HO170.out) hb); have n4_ := Aside0.mk (Kd.R_below (by (with_reducible repeat (first | apply Kd.R_alloc | apply Kd.R_drewN | apply Kd.R_drew)); exact HO174.out) hb); have n5_ := Aside0.mk (below_step (by repeat (first | (with_reducible first | exact HB.out | apply below_alloc | apply pw_below_drewN | apply below_drew1) | exact HB.out)) hb); clear HO_1; clear HO_2; clear HO_4; clear HO170; clear HO174; clear HB; have HO_1 := n0_; have HO_2 := n1_; have HO_4 := n2_; have HO170 := n3_; have HO174 := n4_; have HB := n5_; clear n0_ n1_ n2_ n3_ n4_ n5_; (try clear hb); (try clear hb2); (try clear hk); (try clear hi)) | ((with_reducible refine gate_dst (N := 114) rfl ?_); (try (refine gate_guard (by rfl) ?_; dsimp only)); refine Kd.R_lit k44 _ 44 ?hg (N := 114) ?hd (xs := ([(⟨1, 1, 0⟩ : S44)] : List (S44))) (inner := [.int .i64 1, .int .i64 1, .int .i64 0]) (ok := fun _ => True) (okp := fun _ => True) ?hr ?hp (fun _ hk => hk) trivial (Below.refl _ _) (Nat.le_refl _) (by simp) ?_; (case hd => rfl); (case hg => rfl); (case hr => first | (go_simp; done) | (go_simp; rfl)); (case hp => exact (Reps.c3 (show Kd.M k44 _ _ _ (⟨1, 1, 0⟩ : S44) [.int .i64 1, .int .i64 1, .int .i64 0] from (k44_mkM _ _ _ (⟨1, 1, 0⟩ : S44) )) (Reps.none _ _))); intro v178 w61 ho62 hb hg_ hnew_; clear hg_ hnew_; (first | rw [← Ny177.out] at ho62 | (simp only [Int.reduceToNat] at ho62; rw [← Ny177.out] at ho62)); have n0_ := Aside0.mk (Kd.R_elder' (by (with_reducible repeat (first | apply Kd.R_alloc | apply Kd.R_drewN | apply Kd.R_drew)); exact HO_1.out) (Kd.R_base ho62) hb); have n1_ := Aside0.mk (Kd.R_below (by (with_reducible repeat (first | apply Kd.R_alloc | apply Kd.R_drewN | apply Kd.R_drew)); exact HO_2.out) hb); have n2_ := Aside0.mk (Kd.R_below (by (with_reducible repeat (first | apply Kd.R_alloc | apply Kd.R_drewN | apply Kd.R_drew)); exact HO_4.out) hb); have n3_ := Aside0.mk (Kd.R_below (by (with_reducible repeat (first | apply Kd.R_alloc | apply Kd.R_drewN | apply Kd.R_drew)); exact HO170.out) hb); have n4_ := Aside0.mk (Kd.R_below (by (with_reducible repeat (first | apply Kd.R_alloc | apply Kd.R_drewN | apply Kd.R_drew)); exact HO174.out) hb); have n5_ := Aside0.mk (Kd.R_lower (Kd.R_new' ho62 (Kd.R_lt (by (with_reducible repeat (first | apply Kd.R_alloc | apply Kd.R_drewN | apply Kd.R_drew)); exact HO_1.out))) (below_size (by repeat (first | (with_reducible first | exact HB.out | apply below_alloc | apply pw_below_drewN | apply below_drew1) | exact HB.out)))); have n6_ := Aside0.mk (below_step (by repeat (first | (with_reducible first | exact HB.out | apply below_alloc | apply pw_below_drewN | apply below_drew1) | exact HB.out)) hb); clear HO_1; clear HO_2; clear HO_4; clear HO170; clear HO174; clear HB; have HO_1 := n0_; have HO_2 := n1_; have HO_4 := n2_; have HO170 := n3_; have HO174 := n4_; have HO179 := n5_; have HB := n6_; clear n0_ n1_ n2_ n3_ n4_ n5_ n6_; clear hb ho62; obtain ⟨Ao63, co63, eo63⟩ := Kd.R_slice HO179.out; subst eo63) | (go_at_call 13; (with_reducible refine (flow_Valid.calls _ _ y177 t180 _ ?side1 ?side2 A51.out).mono ?_); (case side1 => repeat (first | exact (Kd.R_reads' HO179.out).2.2 | (with_reducible refine Kd.C_alloc ?_ _) | (with_reducible refine Kd.C_drewN ?_ _) | (with_reducible refine Kd.C_drew ?_))); (case side2 => exact (Kd.R_reads' HO179.out).2.1); rintro e w64 ⟨rfl, hb⟩; have n0_ := Aside0.mk (Kd.R_below (by (with_reducible repeat (first | apply Kd.R_alloc | apply Kd.R_drewN | apply Kd.R_drew)); exact HO_1.out) hb); have n1_ := Aside0.mk (Kd.R_below (by (with_reducible repeat (first | apply Kd.R_alloc | apply Kd.R_drewN | apply Kd.R_drew)); exact HO_2.out) hb); have n2_ := Aside0.mk (Kd.R_below (by (with_reducible repeat (first | apply Kd.R_alloc | apply Kd.R_drewN | apply Kd.R_drew)); exact HO_4.out) hb); have n3_ := Aside0.mk (Kd.R_below (by (with_reducible repeat (first | apply Kd.R_alloc | apply Kd.R_drewN | apply Kd.R_drew)); exact HO170.out) hb); have n4_ := Aside0.mk (Kd.R_below (by (with_reducible repeat (first | apply Kd.R_alloc | apply Kd.R_drewN | apply Kd.R_drew)); exact HO174.out) hb); have n5_ := Aside0.mk (Kd.R_below (by (with_reducible repeat (first | apply Kd.R_alloc | apply Kd.R_drewN | apply Kd.R_drew)); exact HO179.out) hb); have n6_ := Aside0.mk (below_step (by repeat (first | (with_reducible first | exact HB.out | apply below_alloc | apply pw_below_drewN | apply below_drew1) | exact HB.out)) hb); clear HO_1; clear HO_2; clear HO_4; clear HO170; clear HO174; clear HO179; clear HB; have HO_1 := n0_; have HO_2 := n1_; have HO_4 := n2_; have HO170 := n3_; have HO174 := n4_; have HO179 := n5_; have HB := n6_; clear n0_ n1_ n2_ n3_ n4_ n5_ n6_; (try clear hb); (try clear hb2); (try clear hk); (try clear hi)))
       go_ret
       exact ⟨by first | rfl | (simp [errW_none, errW_some] <;> rfl) | (simp [*, errW_none, errW_some] <;> rfl), by repeat (first | (with_reducible first | exact HB.out | apply below_alloc | apply pw_below_drewN | apply below_drew1) | exact HB.out)⟩
      ·replace c50 := Bool.eq_false_iff.mpr c50
       subst c50
       have H1 : (some false) = some r := by rw [if_neg (show ¬ (false = true) by decide)] at H; exact H
       clear H
       have H := H1
       clear H1
       obtain rfl := Option.some.inj H
       go_wp2_with (first | ((with_reducible refine gate_dst (N := 96) rfl ?_); (try (refine gate_guard (by rfl) ?_; dsimp only)); refine Kd.R_lit k39 _ 39 ?hg (N := 96) ?hd (xs := ([(⟨10, 10⟩ : S39), (⟨3, 5⟩ : S39), (⟨3, 7⟩ : S39)] : List (S39))) (inner := [.int .i64 10, .int .i64 10, .int .i64 3, .int .i64 5, .int .i64 3, .int .i64 7]) (ok := fun _ => True) (okp := fun _ => True) ?hr ?hp (fun _ hk => hk) trivial (Below.refl _ _) (Nat.le_refl _) (by simp) ?_; (case hd => rfl); (case hg => rfl); (case hr => first | (go_simp; done) | (go_simp; rfl)); (case hp => exact (Reps.c2 (show Kd.M k39 _ _ _ (⟨10, 10⟩ : S39) [.int .i64 10, .int .i64 10] from (k39_mkM _ _ _ (⟨10, 10⟩ : S39) )) (Reps.c2 (show Kd.M k39 _ _ _ (⟨3, 5⟩ : S39) [.int .i64 3, .int .i64 5] from (k39_mkM _ _ _ (⟨3, 5⟩ : S39) )) (Reps.c2 (show Kd.M k39 _ _ _ (⟨3, 7⟩ : S39) [.int .i64 3, .int .i64 7] from (k39_mkM _ _ _ (⟨3, 7⟩ : S39) )) (Reps.none _ _))))); intro v169 w65 ho66 hb hg_ hnew_; clear hg_ hnew_; (first | rw [← Ny168.out] at ho66 | (simp only [Int.reduceToNat] at ho66; rw [← Ny168.out] at ho66)); have n0_ := Aside0.mk (Kd.R_below (by (with_reducible repeat (first | apply Kd.R_alloc | apply Kd.R_drewN | apply Kd.R_drew)); exact HO_1.out) hb); have n1_ := Aside0.mk (Kd.R_elder' (by (with_reducible repeat (first | apply Kd.R_alloc | apply Kd.R_drewN | apply Kd.R_drew)); exact HO_2.out) (Kd.R_base ho66) hb); have n2_ := Aside0.mk (Kd.R_elder' (by (with_reducible repeat (first | apply Kd.R_alloc | apply Kd.R_drewN | apply Kd.R_drew)); exact HO_4.out) (Kd.R_base ho66) hb); have n3_ := Aside0.mk (Kd.R_lower (Kd.R_new' (Kd.R_new' ho66 (Kd.R_lt (by (with_reducible repeat (first | apply Kd.R_alloc | apply Kd.R_drewN | apply Kd.R_drew)); exact HO_2.out))) (Kd.R_lt (by (with_reducible repeat (first | apply Kd.R_alloc | apply Kd.R_drewN | apply Kd.R_drew)); exact HO_4.out))) (below_size (by repeat (first | (with_reducible first | exact HB.out | apply below_alloc | apply pw_below_drewN | apply below_drew1) | exact HB.out)))); have n4_ := Aside0.mk (below_step (by repeat (first | (with_reducible first | exact HB.out | apply below_alloc | apply pw_below_drewN | apply below_drew1) | exact HB.out)) hb); clear HO_1; clear HO_2; clear HO_4; clear HB; have HO_1 := n0_; have HO_2 := n1_; have HO_4 := n2_; have HO170 := n3_; have HB := n4_; clear n0_ n1_ n2_ n3_ n4_; clear hb ho66; obtain ⟨Ao67, co67, eo67⟩ := Kd.R_slice HO_2.out; subst eo67; obtain ⟨Ao68, co68, eo68⟩ := Kd.R_slice HO170.out; subst eo68) | (go_at_call 15; (with_reducible refine (cohousingref28_Same.calls kj5 _ _ t131 _ _ y168 true _ ?side1 ?side2 ?side3 ?side4 A45.out).mono ?_); (case side1 => repeat (first | exact (Kd.R_reads' HO_2.out).2.2 | (with_reducible refine Kd.C_alloc ?_ _) | (with_reducible refine Kd.C_drewN ?_ _) | (with_reducible refine Kd.C_drew ?_))); (case side2 => exact (Kd.R_reads' HO_2.out).2.1); (case side3 => repeat (first | exact (Kd.R_reads' HO170.out).2.2 | (with_reducible refine Kd.C_alloc ?_ _) | (with_reducible refine Kd.C_drewN ?_ _) | (with_reducible refine Kd.C_drew ?_))); (case side4 => exact (Kd.R_reads' HO170.out).2.1); rintro e w' ⟨rfl, ⟨nd, rfl⟩⟩) | ((with_reducible refine gate_dst (N := 104) rfl ?_); (try (refine gate_guard (by rfl) ?_; dsimp only)); refine Kd.R_lit k39 _ 39 ?hg (N := 104) ?hd (xs := ([(⟨7, 11⟩ : S39), (⟨3, 5⟩ : S39), (⟨4, 4⟩ : S39)] : List (S39))) (inner := [.int .i64 7, .int .i64 11, .int .i64 3, .int .i64 5, .int .i64 4, .int .i64 4]) (ok := fun _ => True) (okp := fun _ => True) ?hr ?hp (fun _ hk => hk) trivial (Below.refl _ _) (Nat.le_refl _) (by simp) ?_; (case hd => rfl); (case hg => rfl); (case hr => first | (go_simp; done) | (go_simp; rfl)); (case hp => exact (Reps.c2 (show Kd.M k39 _ _ _ (⟨7, 11⟩ : S39) [.int .i64 7, .int .i64 11] from (k39_mkM _ _ _ (⟨7, 11⟩ : S39) )) (Reps.c2 (show Kd.M k39 _ _ _ (⟨3, 5⟩ : S39) [.int .i64 3, .int .i64 5] from (k39_mkM _ _ _ (⟨3, 5⟩ : S39) )) (Reps.c2 (show Kd.M k39 _ _ _ (⟨4, 4⟩ : S39) [.int .i64 4, .int .i64 4] from (k39_mkM _ _ _ (⟨4, 4⟩ : S39) )) (Reps.none _ _))))); intro v173 w69 ho70 hb hg_ hnew_; clear hg_ hnew_; (first | rw [← Ny172.out] at ho70 | (simp only [Int.reduceToNat] at ho70; rw [← Ny172.out] at ho70)); have n0_ := Aside0.mk (Kd.R_below (by (with_reducible repeat (first | apply Kd.R_alloc | apply Kd.R_drewN | apply Kd.R_drew)); exact HO_1.out) hb); have n1_ := Aside0.mk (Kd.R_elder' (by (with_reducible repeat (first | apply Kd.R_alloc | apply Kd.R_drewN | apply Kd.R_drew)); exact HO_2.out) (Kd.R_base ho70) hb); have n2_ := Aside0.mk (Kd.R_elder' (by (with_reducible repeat (first | apply Kd.R_alloc | apply Kd.R_drewN | apply Kd.R_drew)); exact HO_4.out) (Kd.R_base ho70) hb); have n3_ := Aside0.mk (Kd.R_elder' (by (with_reducible repeat (first | apply Kd.R_alloc | apply Kd.R_drewN | apply Kd.R_drew)); exact HO170.out) (Kd.R_base ho70) hb); have n4_ := Aside0.mk (Kd.R_lower (Kd.R_new' (Kd.R_new' (Kd.R_new' ho70 (Kd.R_lt (by (with_reducible repeat (first | apply Kd.R_alloc | apply Kd.R_drewN | apply Kd.R_drew)); exact HO_2.out))) (Kd.R_lt (by (with_reducible repeat (first | apply Kd.R_alloc | apply Kd.R_drewN | apply Kd.R_drew)); exact HO_4.out))) (Kd.R_lt (by (with_reducible repeat (first | apply Kd.R_alloc | apply Kd.R_drewN | apply Kd.R_drew)); exact HO170.out))) (below_size (by repeat (first | (with_reducible first | exact HB.out | apply below_alloc | apply pw_below_drewN | apply below_drew1) | exact HB.out)))); have n5_ := Aside0.mk (below_step (by repeat (first | (with_reducible first | exact HB.out | apply below_alloc | apply pw_below_drewN | apply below_drew1) | exact HB.out)) hb); clear HO_1; clear HO_2; clear HO_4; clear HO170; clear HB; have HO_1 := n0_; have HO_2 := n1_; have HO_4 := n2_; have HO170 := n3_; have HO174 := n4_; have HB := n5_; clear n0_ n1_ n2_ n3_ n4_ n5_; clear hb ho70; obtain ⟨Ao71, co71, eo71⟩ := Kd.R_slice HO_4.out; subst eo71; obtain ⟨Ao72, co72, eo72⟩ := Kd.R_slice HO174.out; subst eo72) | (go_at_call 15; (with_reducible refine (cohousingref28_Same.calls kj5 _ _ t138 _ _ y172 true _ ?side1 ?side2 ?side3 ?side4 A47.out).mono ?_); (case side1 => repeat (first | exact (Kd.R_reads' HO_4.out).2.2 | (with_reducible refine Kd.C_alloc ?_ _) | (with_reducible refine Kd.C_drewN ?_ _) | (with_reducible refine Kd.C_drew ?_))); (case side2 => exact (Kd.R_reads' HO_4.out).2.1); (case side3 => repeat (first | exact (Kd.R_reads' HO174.out).2.2 | (with_reducible refine Kd.C_alloc ?_ _) | (with_reducible refine Kd.C_drewN ?_ _) | (with_reducible refine Kd.C_drew ?_))); (case side4 => exact (Kd.R_reads' HO174.out).2.1); rintro e w' ⟨rfl, ⟨nd, rfl⟩⟩) | (go_at_call 13; (with_reducible refine (flow_Valid.calls _ _ y125 false _ ?side1 ?side2 A49.out).mono ?_); (case side1 => repeat (first | exact (Kd.R_reads' HO_1.out).2.2 | (with_reducible refine Kd.C_alloc ?_ _) | (with_reducible refine Kd.C_drewN ?_ _) | (with_reducible refine Kd.C_drew ?_))); (case side2 => exact (Kd.R_reads' HO_1.out).2.1); rintro e w73 ⟨rfl, hb⟩; have n0_ := Aside0.mk (Kd.R_below (by (with_reducible repeat (first | apply Kd.R_alloc | apply Kd.R_drewN | apply Kd.R_drew)); exact HO_1.out) hb); have n1_ := Aside0.mk (Kd.R_below (by (with_reducible repeat (first | apply Kd.R_alloc | apply Kd.R_drewN | apply Kd.R_drew)); exact HO_2.out) hb); have n2_ := Aside0.mk (Kd.R_below (by (with_reducible repeat (first | apply Kd.R_alloc | apply Kd.R_drewN | apply Kd.R_drew)); exact HO_4.out) hb); have n3_ := Aside0.mk (Kd.R_below (by (with_reducible repeat (first | apply Kd.R_alloc | apply Kd.R_drewN | apply Kd.R_drew)); exact HO170.out) hb); have n4_ := Aside0.mk (Kd.R_below (by (with_reducible repeat (first | apply Kd.R_alloc | apply Kd.R_drewN | apply Kd.R_drew)); exact HO174.out) hb); have n5_ := Aside0.mk (below_step (by repeat (first | (with_reducible first | exact HB.out | apply below_alloc | apply pw_below_drewN | apply below_drew1) | exact HB.out)) hb); clear HO_1; clear HO_2; clear HO_4; clear HO170; clear HO174; clear HB; have HO_1 := n0_; have HO_2 := n1_; have HO_4 := n2_; have HO170 := n3_; have HO174 := n4_; have HB := n5_; clear n0_ n1_ n2_ n3_ n4_ n5_; (try clear hb); (try clear hb2); (try clear hk); (try clear hi)))
       go_ret
       exact ⟨by first | rfl | (simp [errW_none, errW_some] <;> rfl) | (simp [*, errW_none, errW_some] <;> rfl), by repeat (first | (with_reducible first | exact HB.out | apply below_alloc | apply pw_below_drewN | apply below_drew1) | exact HB.out)⟩
     ·replace c48 := Bool.eq_false_iff.mpr c48
      subst c48
      have H1 : (some false) = some r := by rw [if_neg (show ¬ (false = true) by decide)] at H; exact H
      clear H
      have H := H1
      clear H1
      obtain rfl := Option.some.inj H
      go_wp2_with (first | ((with_reducible refine gate_dst (N := 96) rfl ?_); (try (refine gate_guard (by rfl) ?_; dsimp only)); refine Kd.R_lit k39 _ 39 ?hg (N := 96) ?hd (xs := ([(⟨10, 10⟩ : S39), (⟨3, 5⟩ : S39), (⟨3, 7⟩ : S39)] : List (S39))) (inner := [.int .i64 10, .int .i64 10, .int .i64 3, .int .i64 5, .int .i64 3, .int .i64 7]) (ok := fun _ => True) (okp := fun _ => True) ?hr ?hp (fun _ hk => hk) trivial (Below.refl _ _) (Nat.le_refl _) (by simp) ?_; (case hd => rfl); (case hg => rfl); (case hr => first | (go_simp; done) | (go_simp; rfl)); (case hp => exact (Reps.c2 (show Kd.M k39 _ _ _ (⟨10, 10⟩ : S39) [.int .i64 10, .int .i64 10] from (k39_mkM _ _ _ (⟨10, 10⟩ : S39) )) (Reps.c2 (show Kd.M k39 _ _ _ (⟨3, 5⟩ : S39) [.int .i64 3, .int .i64 5] from (k39_mkM _ _ _ (⟨3, 5⟩ : S39) )) (Reps.c2 (show Kd.M k39 _ _ _ (⟨3, 7⟩ : S39) [.int .i64 3, .int .i64 7] from (k39_mkM _ _ _ (⟨3, 7⟩ : S39) )) (Reps.none _ _))))); intro v169 w74 ho75 hb hg_ hnew_; clear hg_ hnew_; (first | rw [← Ny168.out] at ho75 | (simp only [Int.reduceToNat] at ho75; rw [← Ny168.out] at ho75)); have n0_ := Aside0.mk (Kd.R_below (by (with_reducible repeat (first | apply Kd.R_alloc | apply Kd.R_drewN | apply Kd.R_drew)); exact HO_1.out) hb); have n1_ := Aside0.mk (Kd.R_elder' (by (with_reducible repeat (first | apply Kd.R_alloc | apply Kd.R_drewN | apply Kd.R_drew)); exact HO_2.out) (Kd.R_base ho75) hb); have n2_ := Aside0.mk (Kd.R_elder' (by (with_reducible repeat (first | apply Kd.R_alloc | apply Kd.R_drewN | apply Kd.R_drew)); exact HO_4.out) (Kd.R_base ho75) hb); have n3_ := Aside0.mk (Kd.R_lower (Kd.R_new' (Kd.R_new' ho75 (Kd.R_lt (by (with_reducible repeat (first | apply Kd.R_alloc | apply Kd.R_drewN | apply Kd.R_drew)); exact HO_2.out))) (Kd.R_lt (by (with_reducible repeat (first | apply Kd.R_alloc | apply Kd.R_drewN | apply Kd.R_drew)); exact HO_4.out))) (below_size (by repeat (first | (with_reducible first | exact HB.out | apply below_alloc | apply pw_below_drewN | apply below_drew1) | exact HB.out)))); have n4_ := Aside0.mk (below_step (by repeat (first | (with_reducible first | exact HB.out | apply below_alloc | apply pw_below_drewN | apply below_drew1) | exact HB.out)) hb); clear HO_1; clear HO_2; clear HO_4; clear HB; have HO_1 := n0_; have HO_2 := n1_; have HO_4 := n2_; have HO170 := n3_; have HB := n4_; clear n0_ n1_ n2_ n3_ n4_; clear hb ho75; obtain ⟨Ao76, co76, eo76⟩ := Kd.R_slice HO_2.out; subst eo76; obtain ⟨Ao77, co77, eo77⟩ := Kd.R_slice HO170.out; subst eo77) | (go_at_call 15; (with_reducible refine (cohousingref28_Same.calls kj5 _ _ t131 _ _ y168 true _ ?side1 ?side2 ?side3 ?side4 A45.out).mono ?_); (case side1 => repeat (first | exact (Kd.R_reads' HO_2.out).2.2 | (with_reducible refine Kd.C_alloc ?_ _) | (with_reducible refine Kd.C_drewN ?_ _) | (with_reducible refine Kd.C_drew ?_))); (case side2 => exact (Kd.R_reads' HO_2.out).2.1); (case side3 => repeat (first | exact (Kd.R_reads' HO170.out).2.2 | (with_reducible refine Kd.C_alloc ?_ _) | (with_reducible refine Kd.C_drewN ?_ _) | (with_reducible refine Kd.C_drew ?_))); (case side4 => exact (Kd.R_reads' HO170.out).2.1); rintro e w' ⟨rfl, ⟨nd, rfl⟩⟩) | ((with_reducible refine gate_dst (N := 104) rfl ?_); (try (refine gate_guard (by rfl) ?_; dsimp only)); refine Kd.R_lit k39 _ 39 ?hg (N := 104) ?hd (xs := ([(⟨7, 11⟩ : S39), (⟨3, 5⟩ : S39), (⟨4, 4⟩ : S39)] : List (S39))) (inner := [.int .i64 7, .int .i64 11, .int .i64 3, .int .i64 5, .int .i64 4, .int .i64 4]) (ok := fun _ => True) (okp := fun _ => True) ?hr ?hp (fun _ hk => hk) trivial (Below.refl _ _) (Nat.le_refl _) (by simp) ?_; (case hd => rfl); (case hg => rfl); (case hr => first | (go_simp; done) | (go_simp; rfl)); (case hp => exact (Reps.c2 (show Kd.M k39 _ _ _ (⟨7, 11⟩ : S39) [.int .i64 7, .int .i64 11] from (k39_mkM _ _ _ (⟨7, 11⟩ : S39) )) (Reps.c2 (show Kd.M k39 _ _ _ (⟨3, 5⟩ : S39) [.int .i64 3, .int .i64 5] from (k39_mkM _ _ _ (⟨3, 5⟩ : S39) )) (Reps.c2 (show Kd.M k39 _ _ _ (⟨4, 4⟩ : S39) [.int .i64 4, .int .i64 4] from (k39_mkM _ _ _ (⟨4, 4⟩ : S39) )) (Reps.none _ _))))); intro v173 w78 ho79 hb hg_ hnew_; clear hg_ hnew_; (first | rw [← Ny172.out] at ho79 | (simp only [Int.reduceToNat] at ho79; rw [← Ny172.out] at ho79)); have n0_ := Aside0.mk (Kd.R_below (by (with_reducible repeat (first | apply Kd.R_alloc | apply Kd.R_drewN | apply Kd.R_drew)); exact HO_1.out) hb); have n1_ := Aside0.mk (Kd.R_elder' (by (with_reducible repeat (first | apply Kd.R_alloc | apply Kd.R_drewN | apply Kd.R_drew)); exact HO_2.out) (Kd.R_base ho79) hb); have n2_ := Aside0.mk (Kd.R_elder' (by (with_reducible repeat (first | apply Kd.R_alloc | apply Kd.R_drewN | apply Kd.R_drew)); exact HO_4.out) (Kd.R_base ho79) hb); have n3_ := Aside0.mk (Kd.R_elder' (by (with_reducible repeat (first | apply Kd.R_alloc | apply Kd.R_drewN | apply Kd.R_drew)); exact HO170.out) (Kd.R_base ho79) hb); have n4_ := Aside0.mk (Kd.R_lower (Kd.R_new' (Kd.R_new' (Kd.R_new' ho79 (Kd.R_lt (by (with_reducible repeat (first | apply Kd.R_alloc | apply Kd.R_drewN | apply Kd.R_drew)); exact HO_2.out))) (Kd.R_lt (by (with_reducible repeat (first | apply Kd.R_alloc | apply Kd.R_drewN | apply Kd.R_drew)); exact HO_4.out))) (Kd.R_lt (by (with_reducible repeat (first | apply Kd.R_alloc | apply Kd.R_drewN | apply Kd.R_drew)); exact HO170.out))) (below_size (by repeat (first | (with_reducible first | exact HB.out | apply below_alloc | apply pw_below_drewN | apply below_drew1) | exact HB.out)))); have n5_ := Aside0.mk (below_step (by repeat (first | (with_reducible first | exact HB.out | apply below_alloc | apply pw_below_drewN | apply below_drew1) | exact HB.out)) hb); clear HO_1; clear HO_2; clear HO_4; clear HO170; clear HB; have HO_1 := n0_; have HO_2 := n1_; have HO_4 := n2_; have HO170 := n3_; have HO174 := n4_; have HB := n5_; clear n0_ n1_ n2_ n3_ n4_ n5_; clear hb ho79; obtain ⟨Ao80, co80, eo80⟩ := Kd.R_slice HO_4.out; subst eo80; obtain ⟨Ao81, co81, eo81⟩ := Kd.R_slice HO174.out; subst eo81) | (go_at_call 15; (with_reducible refine (cohousingref28_Same.calls kj5 _ _ t138 _ _ y172 false _ ?side1 ?side2 ?side3 ?side4 A47.out).mono ?_); (case side1 => repeat (first | exact (Kd.R_reads' HO_4.out).2.2 | (with_reducible refine Kd.C_alloc ?_ _) | (with_reducible refine Kd.C_drewN ?_ _) | (with_reducible refine Kd.C_drew ?_))); (case side2 => exact (Kd.R_reads' HO_4.out).2.1); (case side3 => repeat (first | exact (Kd.R_reads' HO174.out).2.2 | (with_reducible refine Kd.C_alloc ?_ _) | (with_reducible refine Kd.C_drewN ?_ _) | (with_reducible refine Kd.C_drew ?_))); (case side4 => exact (Kd.R_reads' HO174.out).2.1); rintro e w' ⟨rfl, ⟨nd, rfl⟩⟩))
      go_ret
      exact ⟨by first | rfl | (simp [errW_none, errW_some] <;> rfl) | (simp [*, errW_none, errW_some] <;> rfl), by repeat (first | (with_reducible first | exact HB.out | apply below_alloc | apply pw_below_drewN | apply below_drew1) | exact HB.out)⟩
    ·replace c46 := Bool.eq_false_iff.mpr c46
     subst c46
     have H1 : (some false) = some r := by rw [if_neg (show ¬ (false = true) by decide)] at H; exact H
     clear H
     have H := H1
     clear H1
     obtain rfl := Option.some.inj H
     go_wp2_with (first | ((with_reducible refine gate_dst (N := 96) rfl ?_); (try (refine gate_guard (by rfl) ?_; dsimp only)); refine Kd.R_lit k39 _ 39 ?hg (N := 96) ?hd (xs := ([(⟨10, 10⟩ : S39), (⟨3, 5⟩ : S39), (⟨3, 7⟩ : S39)] : List (S39))) (inner := [.int .i64 10, .int .i64 10, .int .i64 3, .int .i64 5, .int .i64 3, .int .i64 7]) (ok := fun _ => True) (okp := fun _ => True) ?hr ?hp (fun _ hk => hk) trivial (Below.refl _ _) (Nat.le_refl _) (by simp) ?_; (case hd => rfl); (case hg => rfl); (case hr => first | (go_simp; done) | (go_simp; rfl)); (case hp => exact (Reps.c2 (show Kd.M k39 _ _ _ (⟨10, 10⟩ : S39) [.int .i64 10, .int .i64 10] from (k39_mkM _ _ _ (⟨10, 10⟩ : S39) )) (Reps.c2 (show Kd.M k39 _ _ _ (⟨3, 5⟩ : S39) [.int .i64 3, .int .i64 5] from (k39_mkM _ _ _ (⟨3, 5⟩ : S39) )) (Reps.c2 (show Kd.M k39 _ _ _ (⟨3, 7⟩ : S39) [.int .i64 3, .int .i64 7] from (k39_mkM _ _ _ (⟨3, 7⟩ : S39) )) (Reps.none _ _))))); intro v169 w82 ho83 hb hg_ hnew_; clear hg_ hnew_; (first | rw [← Ny168.out] at ho83 | (simp only [Int.reduceToNat] at ho83; rw [← Ny168.out] at ho83)); have n0_ := Aside0.mk (Kd.R_below (by (with_reducible repeat (first | apply Kd.R_alloc | apply Kd.R_drewN | apply Kd.R_drew)); exact HO_1.out) hb); have n1_ := Aside0.mk (Kd.R_elder' (by (with_reducible repeat (first | apply Kd.R_alloc | apply Kd.R_drewN | apply Kd.R_drew)); exact HO_2.out) (Kd.R_base ho83) hb); have n2_ := Aside0.mk (Kd.R_elder' (by (with_reducible repeat (first | apply Kd.R_alloc | apply Kd.R_drewN | apply Kd.R_drew)); exact HO_4.out) (Kd.R_base ho83) hb); have n3_ := Aside0.mk (Kd.R_lower (Kd.R_new' (Kd.R_new' ho83 (Kd.R_lt (by (with_reducible repeat (first | apply Kd.R_alloc | apply Kd.R_drewN | apply Kd.R_drew)); exact HO_2.out))) (Kd.R_lt (by (with_reducible repeat (first | apply Kd.R_alloc | apply Kd.R_drewN | apply Kd.R_drew)); exact HO_4.out))) (below_size (by repeat (first | (with_reducible first | exact HB.out | apply below_alloc | apply pw_below_drewN | apply below_drew1) | exact HB.out)))); have n4_ := Aside0.mk (below_step (by repeat (first | (with_reducible first | exact HB.out | apply below_alloc | apply pw_below_drewN | apply below_drew1) | exact HB.out)) hb); clear HO_1; clear HO_2; clear HO_4; clear HB; have HO_1 := n0_; have HO_2 := n1_; have HO_4 := n2_; have HO170 := n3_; have HB := n4_; clear n0_ n1_ n2_ n3_ n4_; clear hb ho83; obtain ⟨Ao84, co84, eo84⟩ := Kd.R_slice HO_2.out; subst eo84; obtain ⟨Ao85, co85, eo85⟩ := Kd.R_slice HO170.out; subst eo85) | (go_at_call 15; (with_reducible refine (cohousingref28_Same.calls kj5 _ _ t131 _ _ y168 false _ ?side1 ?side2 ?side3 ?side4 A45.out).mono ?_); (case side1 => repeat (first | exact (Kd.R_reads' HO_2.out).2.2 | (with_reducible refine Kd.C_alloc ?_ _) | (with_reducible refine Kd.C_drewN ?_ _) | (with_reducible refine Kd.C_drew ?_))); (case side2 => exact (Kd.R_reads' HO_2.out).2.1); (case side3 => repeat (first | exact (Kd.R_reads' HO170.out).2.2 | (with_reducible refine Kd.C_alloc ?_ _) | (with_reducible refine Kd.C_drewN ?_ _) | (with_reducible refine Kd.C_drew ?_))); (case side4 => exact (Kd.R_reads' HO170.out).2.1); rintro e w' ⟨rfl, ⟨nd, rfl⟩⟩))
     go_ret
     exact ⟨by first | rfl | (simp [errW_none, errW_some] <;> rfl) | (simp [*, errW_none, errW_some] <;> rfl), by repeat (first | (with_reducible first | exact HB.out | apply below_alloc | apply pw_below_drewN | apply below_drew1) | exact HB.out)⟩
   ·replace c44 := Bool.eq_false_iff.mpr c44
    subst c44
    have H1 : (some false) = some r := by rw [if_neg (show ¬ (false = true) by decide)] at H; exact H
    clear H
    have H := H1
    clear H1
    obtain rfl := Option.some.inj H
    go_wp2
    go_ret
    exact ⟨by first | rfl | (simp [errW_none, errW_some] <;> rfl) | (simp [*, errW_none, errW_some] <;> rfl), by repeat (first | (with_reducible first | exact HB.out | apply below_alloc | apply pw_below_drewN | apply below_drew1) | exact HB.out)⟩
end Go.Proofs.Ytmojlpafpeeelaa.P
end
section
namespace Go.Proofs.Ytmojlpafpeeelaa.P
open Go.RowKit Go.Proofs.YtmojlpafpeeelaaW.PrintWords Go.Proofs.YtmojlpafpeeelaaW.PrintLast Go.Proofs.YtmojlpafpeeelaaW.PrintMore
attribute [local go_sem] max2_int min2_int max_two min_two max_three min_three max_four min_four
set_option linter.unusedVariables false
set_option linter.unusedSimpArgs false
def cohousingref28_Volume.f (a0 : Int) : Option (Bool) := if a0 ≥ 0 then (some (decide (a0 ≤ 1000000000))) else (some false)
set_option maxHeartbeats 8000000 in
set_option maxRecDepth 100000 in
theorem cohousingref28_Volume.calls (a0 : Int) (r : Bool) (w : World) (h : cohousingref28_Volume.f a0 = some r) :
  Calls Try.prog 31 #[.int .i64 a0] w fun e w' => e = .returned (.bool r) ∧ Drawn0 w w' := by
 have H : (if a0 ≥ 0 then (some (decide (a0 ≤ 1000000000))) else (some false)) = some r := h
 clear h
 by_cases c2 : a0 ≥ 0
 ·rw [if_pos c2] at H
  have c2b0 : decide (0 ≤ a0) = true := decide_eq_true c2
  clear c2
  obtain rfl := Option.some.inj H
  go_enter Try.func31, Try.ntmps31
  go_wp2
  go_ret
  exact ⟨by first | rfl | (simp; done) | (simp [*]; done), by repeat (first | exact Drawn0.refl _ | apply Drawn0.step)⟩
 ·rw [if_neg c2] at H
  have c2b0 : decide (0 ≤ a0) = false := decide_eq_false c2
  clear c2
  obtain rfl := Option.some.inj H
  go_enter Try.func31, Try.ntmps31
  go_wp2
  go_ret
  exact ⟨by first | rfl | (simp; done) | (simp [*]; done), by repeat (first | exact Drawn0.refl _ | apply Drawn0.step)⟩
end Go.Proofs.Ytmojlpafpeeelaa.P
end
section
namespace Go.Proofs.Ytmojlpafpeeelaa.P
open Go.RowKit Go.Proofs.YtmojlpafpeeelaaW.PrintWords Go.Proofs.YtmojlpafpeeelaaW.PrintLast Go.Proofs.YtmojlpafpeeelaaW.PrintMore
attribute [local go_sem] max2_int min2_int max_two min_two max_three min_three max_four min_four
set_option linter.unusedVariables false
set_option linter.unusedSimpArgs false
def cohousingref28_At.l0 : Nat → List (S44) → Int → Int → Option (Int)
 | 0, _, _, _ => none
 | k + 1, x0, x1, x5 => if x5 < (x0.length : Int) then (if 0 ≤ x5 then (if ((rd_T44 x0 x5).f0) = x1 then (some x5) else (cohousingref28_At.l0 k x0 x1 (wrap64 (x5 + 1)))) else (none)) else (some (-1))
def cohousingref28_At.f (k : Nat) (l0 : List (S44)) (a1 : Int) : Option (Int) := cohousingref28_At.l0 k l0 a1 0
set_option maxHeartbeats 8000000 in
set_option maxRecDepth 100000 in
theorem cohousingref28_At.calls (k : Nat) (A0 : Option Addr) (c0 : Nat) (l0 : List (S44)) (a1 : Int) (r : Int) (w : World) (hr0 : Kd.C k44 w A0 l0.length l0) (hc0 : l0.length ≤ c0) (h : cohousingref28_At.f k l0 a1 = some r) :
  Calls Try.prog 32 #[.slice A0 l0.length c0, .int .i64 a1] w fun e w' => e = .returned (.int .i64 r) ∧ Drawn0 w w' := by
 have HR0 := Aside0.mk hr0
 have HC0 := Aside0.mk hc0
 clear hr0 hc0
 have H : (cohousingref28_At.l0 k l0 a1 0) = some r := h
 clear h
 have H' := Aside0.mk H
 clear H
 go_enter Try.func32, Try.ntmps32
 go_wp2
 go_loopg [5] k (fun kq v5 w' => ∃ (x5_1 : Int), v5 = .int .i64 x5_1 ∧ Aside0 (cohousingref28_At.l0 kq l0 a1 x5_1 = some r) ∧ Aside0 (kq ≤ k) ∧ Drawn0 w w')
 case atStart => exact ⟨(0), (by first | rfl | (simp; done) | (simp [*]; done)), H', ⟨Nat.le_refl _⟩, by repeat (first | exact Drawn0.refl _ | apply Drawn0.step)⟩
 case round =>
  clear H'
  try clear p2
  obtain ⟨x5_1, rfl, HA, HK1, ⟨m1, rfl⟩⟩ := hrel
  cases gk with
  | zero => exact absurd HA.out (by simp [cohousingref28_At.l0])
  | succ k1 =>
   have H := HA.out
   clear HA
   simp only [cohousingref28_At.l0] at H
   by_cases c3 : x5_1 < (l0.length : Int)
   ·rw [if_pos c3] at H
    have c3b0 : decide (x5_1 < (l0.length : Int)) = true := decide_eq_true c3
    clear c3
    by_cases c4 : 0 ≤ x5_1
    ·rw [if_pos c4] at H
     have c4b0 : decide (0 ≤ x5_1) = true := decide_eq_true c4
     clear c4
     by_cases c5 : ((rd_T44 l0 x5_1).f0) = a1
     ·rw [if_pos c5] at H
      have c5b0 : (((rd_T44 l0 x5_1).f0) == a1) = true := beq_iff_eq.mpr c5
      have c5b1 : (((rd_T44 l0 x5_1).f0) != a1) = false := bne_eq_false_iff_eq.mpr c5
      clear c5
      obtain rfl := Option.some.inj H
      have p181 : 0 ≤ (x5_1 : Int) := of_decide_eq_true (by first | (with_reducible assumption) | assumption)
      have q181 : x5_1 < (l0.length : Int) := of_decide_eq_true (by first | (with_reducible assumption) | assumption)
      obtain ⟨ad181, e181, hx181_0, hx181_1, hx181_2⟩ := at_T44 HR0.out x5_1 p181 q181
      cases e181
      replace p181 := eq_true p181
      replace q181 := eq_true q181
      go_wp2
      go_ret
      exact ⟨by first | rfl | (simp; done) | (simp [*]; done), by repeat (first | exact Drawn0.refl _ | apply Drawn0.step)⟩
     ·rw [if_neg c5] at H
      have c5b0 : (((rd_T44 l0 x5_1).f0) == a1) = false := beq_eq_false_iff_ne.mpr c5
      have c5b1 : (((rd_T44 l0 x5_1).f0) != a1) = true := bne_iff_ne.mpr c5
      have H' := Aside0.mk H
      clear H
      have p181 : 0 ≤ (x5_1 : Int) := of_decide_eq_true (by first | (with_reducible assumption) | assumption)
      have q181 : x5_1 < (l0.length : Int) := of_decide_eq_true (by first | (with_reducible assumption) | assumption)
      obtain ⟨ad181, e181, hx181_0, hx181_1, hx181_2⟩ := at_T44 HR0.out x5_1 p181 q181
      cases e181
      replace p181 := eq_true p181
      replace q181 := eq_true q181
      go_wp2
      go_roundg k1
      case measure => have := HK1.out; omega
      case rel => exact ⟨(wrap64 (x5_1 + 1)), (by first | rfl | (simp; done) | (simp [*]; done)), H', ⟨by have := HK1.out; omega⟩, by repeat (first | exact Drawn0.refl _ | apply Drawn0.step)⟩
    ·rw [if_neg c4] at H
     exact absurd H (by simp)
   ·rw [if_neg c3] at H
    have c3b0 : decide (x5_1 < (l0.length : Int)) = false := decide_eq_false c3
    clear c3
    obtain rfl := Option.some.inj H
    go_wp2
    go_ret
    exact ⟨by first | rfl | (simp; done) | (simp [*]; done), by repeat (first | exact Drawn0.refl _ | apply Drawn0.step)⟩
end Go.Proofs.Ytmojlpafpeeelaa.P
end
section
namespace Go.Proofs.Ytmojlpafpeeelaa.P
open Go.RowKit Go.Proofs.YtmojlpafpeeelaaW.PrintWords Go.Proofs.YtmojlpafpeeelaaW.PrintLast Go.Proofs.YtmojlpafpeeelaaW.PrintMore
attribute [local go_sem] max2_int min2_int max_two min_two max_three min_three max_four min_four
set_option linter.unusedVariables false
set_option linter.unusedSimpArgs false
mutual
def cohousingref28_Valid.l0 : Nat → List (S44) → Int → Option (Bool)
 | 0, _, _ => none
 | k + 1, x0, x3 => if x3 < (x0.length : Int) then (if 0 ≤ x3 then (if ((rd_T44 x0 x3).f0) < 1 then (cohousingref28_Valid.j1 k x0 x3 true) else (if x3 > 0 then (if 0 ≤ (wrap64 (x3 - 1)) then (if (wrap64 (x3 - 1)) < (x0.length : Int) then (if ((rd_T44 x0 x3).f0) ≤ ((rd_T44 x0 (wrap64 (x3 - 1))).f0) then (cohousingref28_Valid.j1 k x0 x3 true) else ((cohousingref28_Volume.f ((rd_T44 x0 x3).f2)).bind fun t186 => (cohousingref28_Valid.j1 k x0 x3 (!t186)))) else (none)) else (none)) else ((cohousingref28_Volume.f ((rd_T44 x0 x3).f2)).bind fun t188 => (cohousingref28_Valid.j1 k x0 x3 (!t188))))) else (none)) else (some (decide ((x0.length : Int) ≤ 200)))
def cohousingref28_Valid.j1 : Nat → List (S44) → Int → Bool → Option (Bool)
 | 0, _, _, _ => none
 | k + 1, x0, x3, x42 => if x42 = true then (some false) else (if 0 ≤ x3 then (if x3 < (x0.length : Int) then (if ((rd_T44 x0 x3).f1) = 0 then (cohousingref28_Valid.l0 k x0 (wrap64 (x3 + 1))) else (if x3 ≤ (x0.length : Int) then ((cohousingref28_At.f k (x0.take (x3 : Int).toNat) ((rd_T44 x0 x3).f1)).bind fun t195 => (if t195 < 0 then (some false) else (cohousingref28_Valid.l0 k x0 (wrap64 (x3 + 1))))) else (none))) else (none)) else (none))
end
def cohousingref28_Valid.f (k : Nat) (l0 : List (S44)) : Option (Bool) := cohousingref28_Valid.l0 k l0 0
def cohousingref28_Valid.T4 : Bool × List (List Nat × List Nat) := (true, [([], []), ([], []), ([0, 1], [0, 1]), ([2], [2]), ([3], [3]), ([4], [4]), ([5], [5]), ([6], [6]), ([7, 6], [6, 7]), ([8, 6, 6], [6, 8]), ([9], [9]), ([9], [9]), ([10, 11, 9], [9, 10, 11]), ([12, 9], [9, 12]), ([13, 9], [9, 13]), ([9], [9]), ([9], [9]), ([16, 9], [9, 16]), ([15, 17, 9], [9, 15, 17]), ([18, 9], [9, 18]), ([19, 9], [9, 19]), ([14, 20, 9], [9, 14, 20]), ([9, 21, 6], [6, 9, 21]), ([6, 22], [6, 22]), ([23, 9], [23]), ([24], [24]), ([24], [24]), ([25, 26, 24], [24, 25, 26]), ([27, 24], [24, 27]), ([28, 24], [24, 28]), ([29, 24, 24], [24, 29]), ([30, 24], [24, 30]), ([24, 31], [24, 31])])
def cohousingref28_Valid.B4 : List Nat := [0, 0, 3, 7, 15, 31, 63, 127, 255, 511, 1023, 1023, 4095, 8191, 16383, 1023, 1023, 66559, 230399, 492543, 1016831, 2097151, 4194303, 8388607, 16777215, 33554431, 33554431, 134217727, 268435455, 536870911, 1073741823, 2147483647, 4294967295]
theorem cohousingref28_Valid.tab4 : rtab .any (opsOf Try.f14 4) = cohousingref28_Valid.T4 := by kernel_rfl
theorem cohousingref28_Valid.bits4 : waitsOk cohousingref28_Valid.T4.2 cohousingref28_Valid.B4 = true := by kernel_rfl
def cohousingref28_Valid.T6 : Bool × List (List Nat × List Nat) := (true, [([], []), ([], []), ([0, 1], [0, 1]), ([2], [2]), ([3], [3]), ([4], [4]), ([5], [5]), ([6], [6]), ([6], [6]), ([7, 8, 6], [6, 7, 8]), ([6], [6]), ([6], [6]), ([10, 11, 6], [6, 10, 11]), ([12, 6], [6, 12]), ([13, 6], [6, 13]), ([9, 14, 6, 6], [6, 9, 14]), ([15, 6], [6, 15]), ([6, 16], [6, 16])])
def cohousingref28_Valid.B6 : List Nat := [0, 0, 3, 7, 15, 31, 63, 127, 127, 511, 127, 127, 3199, 7295, 15487, 32767, 65535, 131071]
theorem cohousingref28_Valid.tab6 : rtab .any (opsOf Try.f14 6) = cohousingref28_Valid.T6 := by kernel_rfl
theorem cohousingref28_Valid.bits6 : waitsOk cohousingref28_Valid.T6.2 cohousingref28_Valid.B6 = true := by kernel_rfl
set_option maxHeartbeats 8000000 in
set_option maxRecDepth 100000 in
theorem cohousingref28_Valid.calls (k : Nat) (A0 : Option Addr) (c0 : Nat) (l0 : List (S44)) (r : Bool) (w : World) (hr0 : Kd.C k44 w A0 l0.length l0) (hc0 : l0.length ≤ c0) (h : cohousingref28_Valid.f k l0 = some r) :
  Calls Try.prog 14 #[.slice A0 l0.length c0] w fun e w' => e = .returned (.bool r) ∧ Below w.heap.size w w' := by
 have HR0 := Aside0.mk hr0
 have HC0 := Aside0.mk hc0
 clear hr0 hc0
 have HB := Aside0.mk (Below.refl w.heap.size w)
 have H : (cohousingref28_Valid.l0 k l0 0) = some r := h
 clear h
 have H' := Aside0.mk H
 clear H
 go_enter Try.func14, Try.ntmps14
 go_wp2
 go_loopg [3] k (fun kq v3 w' => ∃ (x3_1 : Int), v3 = .int .i64 x3_1 ∧ Aside0 (cohousingref28_Valid.l0 kq l0 x3_1 = some r) ∧ Aside0 (kq ≤ k) ∧ Aside0 (Below w.heap.size w w'))
 case atStart => exact ⟨(0), (by first | rfl | (simp; done) | (simp [*]; done)), H', ⟨Nat.le_refl _⟩, ⟨by repeat (first | (with_reducible first | exact HB.out | apply below_alloc | apply pw_below_drewN | apply below_drew1) | exact HB.out)⟩⟩
 case round =>
  clear H'
  try clear c1
  obtain ⟨x3_1, rfl, HA, HK1, HB⟩ := hrel
  cases gk with
  | zero => exact absurd HA.out (by simp [cohousingref28_Valid.l0])
  | succ k1 =>
   have H := HA.out
   clear HA
   simp only [cohousingref28_Valid.l0] at H
   by_cases c2 : x3_1 < (l0.length : Int)
   ·rw [if_pos c2] at H
    have c2b0 : decide (x3_1 < (l0.length : Int)) = true := decide_eq_true c2
    clear c2
    have HC3 := Aside0.mk H
    clear H
    go_upto_region 4 with (fail)
    go_cut [42] (fun v42 wc => ∃ (kq : Nat) (x42_2 : Bool), v42 = .bool x42_2 ∧ Aside0 (cohousingref28_Valid.j1 kq l0 x3_1 x42_2 = some r) ∧ Aside0 (kq ≤ k1) ∧ Aside0 (Below w.heap.size w wc))
    case first =>
     have H := HC3.out
     clear HC3
     by_cases c4 : 0 ≤ x3_1
     ·rw [if_pos c4] at H
      have c4b0 : decide (0 ≤ x3_1) = true := decide_eq_true c4
      clear c4
      (first | rw [c4b0] | (simp only [i64_w, i32_w]; rw [c4b0]) | skip)
      by_cases c5 : ((rd_T44 l0 x3_1).f0) < 1
      ·rw [if_pos c5] at H
       have c5b0 : decide (((rd_T44 l0 x3_1).f0) < 1) = true := decide_eq_true c5
       clear c5
       have H' := Aside0.mk H
       clear H
       try go_wp2
       have n0_ := Aside0.mk (below_drew1 HB.out)
       clear HB
       have HB := n0_
       clear n0_
       have p182 : 0 ≤ (x3_1 : Int) := of_decide_eq_true (by first | (with_reducible assumption) | assumption)
       have q182 : x3_1 < (l0.length : Int) := of_decide_eq_true (by first | (with_reducible assumption) | assumption)
       obtain ⟨ad182, e182, hx182_0, hx182_1, hx182_2⟩ := at_T44 HR0.out x3_1 p182 q182
       have hw182_2 := hx182_2
       have hw182_1 := hx182_1
       have hw182_0 := hx182_0
       cases e182
       replace hx182_0 := (HB.out.cell (World.block_lt_of_cell? w _ hx182_0)).trans hx182_0
       replace hx182_1 := (HB.out.cell (World.block_lt_of_cell? w _ hx182_1)).trans hx182_1
       replace hx182_2 := (HB.out.cell (World.block_lt_of_cell? w _ hx182_2)).trans hx182_2
       replace p182 := eq_true p182
       replace q182 := eq_true q182
       refine start_ (n := 33) (S := fun w' => w'.cell? (ad182.add ((x3_1).toNat * 3)) = some (.int .i64 ((rd_T44 l0 x3_1).f0)) ∧ w'.cell? ⟨(ad182.add ((x3_1).toNat * 3)).block, (ad182.add ((x3_1).toNat * 3)).off + 1, none⟩ = some (.int .i64 ((rd_T44 l0 x3_1).f1)) ∧ w'.cell? ⟨(ad182.add ((x3_1).toNat * 3)).block, (ad182.add ((x3_1).toNat * 3)).off + 2, none⟩ = some (.int .i64 ((rd_T44 l0 x3_1).f2))) (ds := []) #[n_, n_, n_, n_, n_, n_, n_, n_, n_, n_, n_, n_, n_, n_, n_, n_, n_, n_, n_, n_, n_, n_, n_, n_, n_, n_, n_, n_, n_, n_, n_, n_, n_] (by kernel_rfl) rfl rfl ⟨((HB.out.cell (World.block_lt_of_cell? w _ hw182_0)).trans hw182_0), ((HB.out.cell (World.block_lt_of_cell? w _ hw182_1)).trans hw182_1), ((HB.out.cell (World.block_lt_of_cell? w _ hw182_2)).trans hw182_2)⟩ (fun hHeld => ?_); refine with_tabW cohousingref28_Valid.tab4 cohousingref28_Valid.bits4 (fun HT_ HW_ => ?_)
       generalize wr.drew = w6 at HB hx182_0 hx182_1 hx182_2 hHeld ⊢
       refine pure_ (i := 0) (N := some 10) (v := ?_) (a' := ?_) #[y_, n_, n_, n_, n_, n_, n_, n_, n_, n_, n_, n_, n_, n_, n_, n_, n_, n_, n_, n_, n_, n_, n_, n_, n_, n_, n_, n_, n_, n_, n_, n_, n_] rfl rfl (any_of HT_.out (by kernel_rfl)) (fun _ _ _ h => h) (Or.inl ⟨by rfl, ?_⟩) ?_ ?_
       rotate_left
       ·intro w'
        go_simp
        with_reducible rfl
       rotate_left
       ·simp only [Act.put, sI_, s0_, sS_, i64_w, i32_w]
        rfl
       refine pure_ (i := 1) (N := some 11) (v := ?_) (a' := ?_) #[y_, y_, n_, n_, n_, n_, n_, n_, n_, n_, n_, n_, n_, n_, n_, n_, n_, n_, n_, n_, n_, n_, n_, n_, n_, n_, n_, n_, n_, n_, n_, n_, n_] rfl rfl (any_of HT_.out (by kernel_rfl)) (fun _ _ _ h => h) (Or.inl ⟨by rfl, ?_⟩) ?_ ?_
       rotate_left
       ·intro w'
        go_simp
        with_reducible rfl
       rotate_left
       ·simp only [Act.put, sI_, s0_, sS_, i64_w, i32_w]
        rfl
       refine pure_ (i := 2) (N := some 12) (v := ?_) (a' := ?_) #[y_, y_, y_, n_, n_, n_, n_, n_, n_, n_, n_, n_, n_, n_, n_, n_, n_, n_, n_, n_, n_, n_, n_, n_, n_, n_, n_, n_, n_, n_, n_, n_, n_] rfl rfl (any_of HT_.out (by kernel_rfl)) (fun _ _ _ h => h) (Or.inl ⟨by rfl, ?_⟩) ?_ ?_
       rotate_left
       ·intro w'
        go_simp
        with_reducible rfl
       rotate_left
       ·simp only [Act.put, sI_, s0_, sS_, i64_w, i32_w]
        rfl
       refine pure_ (i := 3) (N := some 13) (v := ?_) (a' := ?_) #[y_, y_, y_, y_, n_, n_, n_, n_, n_, n_, n_, n_, n_, n_, n_, n_, n_, n_, n_, n_, n_, n_, n_, n_, n_, n_, n_, n_, n_, n_, n_, n_, n_] rfl rfl (any_of HT_.out (by kernel_rfl)) (fun _ _ _ h => h) (Or.inl ⟨by rfl, ?_⟩) ?_ ?_
       rotate_left
       ·intro w'
        go_simp
        with_reducible rfl
       rotate_left
       ·simp only [Act.put, sI_, s0_, sS_, i64_w, i32_w]
        rfl
       refine take_ (i := 4) (N := some 14) (v := ?_) (a' := ?_) #[y_, y_, y_, y_, y_, n_, n_, n_, n_, n_, n_, n_, n_, n_, n_, n_, n_, n_, n_, n_, n_, n_, n_, n_, n_, n_, n_, n_, n_, n_, n_, n_, n_] rfl rfl (take_ofW HT_.out HW_.out (by kernel_rfl)) (fun _ _ _ h => h) (Or.inl ⟨by rfl, ?_⟩) hHeld ?_ ?_
       rotate_left
       ·rintro w' ⟨s0, s1, s2⟩
        go_simp
        with_reducible rfl
       rotate_left
       ·simp only [Act.put, sI_, s0_, sS_, i64_w, i32_w]
        rfl
       refine pure_ (i := 5) (N := some 15) (v := ?_) (a' := ?_) #[y_, y_, y_, y_, y_, y_, n_, n_, n_, n_, n_, n_, n_, n_, n_, n_, n_, n_, n_, n_, n_, n_, n_, n_, n_, n_, n_, n_, n_, n_, n_, n_, n_] rfl rfl (any_of HT_.out (by kernel_rfl)) (fun _ _ _ h => h) (Or.inl ⟨by rfl, ?_⟩) ?_ ?_
       rotate_left
       ·intro w'
        go_simp
        with_reducible rfl
       rotate_left
       ·simp only [Act.put, sI_, s0_, sS_, i64_w, i32_w]
        rfl
       refine pure_ (i := 6) (N := some 16) (v := ?_) (a' := ?_) #[y_, y_, y_, y_, y_, y_, y_, n_, n_, n_, n_, n_, n_, n_, n_, n_, n_, n_, n_, n_, n_, n_, n_, n_, n_, n_, n_, n_, n_, n_, n_, n_, n_] rfl rfl (any_of HT_.out (by kernel_rfl)) (fun _ _ _ h => h) (Or.inl ⟨by rfl, ?_⟩) ?_ ?_
       rotate_left
       ·intro w'
        go_simp
        with_reducible rfl
       rotate_left
       ·simp only [Act.put, sI_, s0_, sS_, i64_w, i32_w]
        rfl
       refine pure_ (i := 7) (N := some 17) (v := undef) (a' := ?_) #[y_, y_, y_, y_, y_, y_, y_, y_, n_, n_, n_, n_, n_, n_, n_, n_, n_, n_, n_, n_, n_, n_, n_, n_, n_, n_, n_, n_, n_, n_, n_, n_, n_] rfl rfl (any_of HT_.out (by kernel_rfl)) (fun _ _ _ h => h) (Or.inr ⟨by rfl, rfl⟩) ?_ ?_
       rotate_left
       ·simp only [Act.put, sI_, s0_, sS_, i64_w, i32_w]
        rfl
       refine pure_ (i := 8) (N := some 18) (v := undef) (a' := ?_) #[y_, y_, y_, y_, y_, y_, y_, y_, y_, n_, n_, n_, n_, n_, n_, n_, n_, n_, n_, n_, n_, n_, n_, n_, n_, n_, n_, n_, n_, n_, n_, n_, n_] rfl rfl (any_of HT_.out (by kernel_rfl)) (fun _ _ _ h => h) (Or.inr ⟨by rfl, rfl⟩) ?_ ?_
       rotate_left
       ·simp only [Act.put, sI_, s0_, sS_, i64_w, i32_w]
        rfl
       refine pure_ (i := 9) (N := some 19) (v := undef) (a' := ?_) #[y_, y_, y_, y_, y_, y_, y_, y_, y_, y_, n_, n_, n_, n_, n_, n_, n_, n_, n_, n_, n_, n_, n_, n_, n_, n_, n_, n_, n_, n_, n_, n_, n_] rfl rfl (any_of HT_.out (by kernel_rfl)) (fun _ _ _ h => h) (Or.inr ⟨by rfl, rfl⟩) ?_ ?_
       rotate_left
       ·simp only [Act.put, sI_, s0_, sS_, i64_w, i32_w]
        rfl
       refine pure_ (i := 10) (N := some 20) (v := undef) (a' := ?_) #[y_, y_, y_, y_, y_, y_, y_, y_, y_, y_, y_, n_, n_, n_, n_, n_, n_, n_, n_, n_, n_, n_, n_, n_, n_, n_, n_, n_, n_, n_, n_, n_, n_] rfl rfl (any_of HT_.out (by kernel_rfl)) (fun _ _ _ h => h) (Or.inr ⟨by rfl, rfl⟩) ?_ ?_
       rotate_left
       ·simp only [Act.put, sI_, s0_, sS_, i64_w, i32_w]
        rfl
       refine pure_ (i := 11) (N := some 21) (v := undef) (a' := ?_) #[y_, y_, y_, y_, y_, y_, y_, y_, y_, y_, y_, y_, n_, n_, n_, n_, n_, n_, n_, n_, n_, n_, n_, n_, n_, n_, n_, n_, n_, n_, n_, n_, n_] rfl rfl (any_of HT_.out (by kernel_rfl)) (fun _ _ _ h => h) (Or.inr ⟨by rfl, rfl⟩) ?_ ?_
       rotate_left
       ·simp only [Act.put, sI_, s0_, sS_, i64_w, i32_w]
        rfl
       refine pure_ (i := 12) (N := some 22) (v := undef) (a' := ?_) #[y_, y_, y_, y_, y_, y_, y_, y_, y_, y_, y_, y_, y_, n_, n_, n_, n_, n_, n_, n_, n_, n_, n_, n_, n_, n_, n_, n_, n_, n_, n_, n_, n_] rfl rfl (any_of HT_.out (by kernel_rfl)) (fun _ _ _ h => h) (Or.inr ⟨by rfl, rfl⟩) ?_ ?_
       rotate_left
       ·simp only [Act.put, sI_, s0_, sS_, i64_w, i32_w]
        rfl
       refine pure_ (i := 13) (N := some 23) (v := undef) (a' := ?_) #[y_, y_, y_, y_, y_, y_, y_, y_, y_, y_, y_, y_, y_, y_, n_, n_, n_, n_, n_, n_, n_, n_, n_, n_, n_, n_, n_, n_, n_, n_, n_, n_, n_] rfl rfl (any_of HT_.out (by kernel_rfl)) (fun _ _ _ h => h) (Or.inr ⟨by rfl, rfl⟩) ?_ ?_
       rotate_left
       ·simp only [Act.put, sI_, s0_, sS_, i64_w, i32_w]
        rfl
       refine pure_ (i := 14) (N := some 24) (v := undef) (a' := ?_) #[y_, y_, y_, y_, y_, y_, y_, y_, y_, y_, y_, y_, y_, y_, y_, n_, n_, n_, n_, n_, n_, n_, n_, n_, n_, n_, n_, n_, n_, n_, n_, n_, n_] rfl rfl (any_of HT_.out (by kernel_rfl)) (fun _ _ _ h => h) (Or.inr ⟨by rfl, rfl⟩) ?_ ?_
       rotate_left
       ·simp only [Act.put, sI_, s0_, sS_, i64_w, i32_w]
        rfl
       refine pure_ (i := 15) (N := some 25) (v := undef) (a' := ?_) #[y_, y_, y_, y_, y_, y_, y_, y_, y_, y_, y_, y_, y_, y_, y_, y_, n_, n_, n_, n_, n_, n_, n_, n_, n_, n_, n_, n_, n_, n_, n_, n_, n_] rfl rfl (any_of HT_.out (by kernel_rfl)) (fun _ _ _ h => h) (Or.inr ⟨by rfl, rfl⟩) ?_ ?_
       rotate_left
       ·simp only [Act.put, sI_, s0_, sS_, i64_w, i32_w]
        rfl
       refine pure_ (i := 16) (N := some 26) (v := undef) (a' := ?_) #[y_, y_, y_, y_, y_, y_, y_, y_, y_, y_, y_, y_, y_, y_, y_, y_, y_, n_, n_, n_, n_, n_, n_, n_, n_, n_, n_, n_, n_, n_, n_, n_, n_] rfl rfl (any_of HT_.out (by kernel_rfl)) (fun _ _ _ h => h) (Or.inr ⟨by rfl, rfl⟩) ?_ ?_
       rotate_left
       ·simp only [Act.put, sI_, s0_, sS_, i64_w, i32_w]
        rfl
       refine pure_ (i := 17) (N := some 27) (v := undef) (a' := ?_) #[y_, y_, y_, y_, y_, y_, y_, y_, y_, y_, y_, y_, y_, y_, y_, y_, y_, y_, n_, n_, n_, n_, n_, n_, n_, n_, n_, n_, n_, n_, n_, n_, n_] rfl rfl (any_of HT_.out (by kernel_rfl)) (fun _ _ _ h => h) (Or.inr ⟨by rfl, rfl⟩) ?_ ?_
       rotate_left
       ·simp only [Act.put, sI_, s0_, sS_, i64_w, i32_w]
        rfl
       refine pure_ (i := 18) (N := some 28) (v := undef) (a' := ?_) #[y_, y_, y_, y_, y_, y_, y_, y_, y_, y_, y_, y_, y_, y_, y_, y_, y_, y_, y_, n_, n_, n_, n_, n_, n_, n_, n_, n_, n_, n_, n_, n_, n_] rfl rfl (any_of HT_.out (by kernel_rfl)) (fun _ _ _ h => h) (Or.inr ⟨by rfl, rfl⟩) ?_ ?_
       rotate_left
       ·simp only [Act.put, sI_, s0_, sS_, i64_w, i32_w]
        rfl
       refine pure_ (i := 19) (N := some 29) (v := undef) (a' := ?_) #[y_, y_, y_, y_, y_, y_, y_, y_, y_, y_, y_, y_, y_, y_, y_, y_, y_, y_, y_, y_, n_, n_, n_, n_, n_, n_, n_, n_, n_, n_, n_, n_, n_] rfl rfl (any_of HT_.out (by kernel_rfl)) (fun _ _ _ h => h) (Or.inr ⟨by rfl, rfl⟩) ?_ ?_
       rotate_left
       ·simp only [Act.put, sI_, s0_, sS_, i64_w, i32_w]
        rfl
       refine pure_ (i := 20) (N := some 30) (v := undef) (a' := ?_) #[y_, y_, y_, y_, y_, y_, y_, y_, y_, y_, y_, y_, y_, y_, y_, y_, y_, y_, y_, y_, y_, n_, n_, n_, n_, n_, n_, n_, n_, n_, n_, n_, n_] rfl rfl (any_of HT_.out (by kernel_rfl)) (fun _ _ _ h => h) (Or.inr ⟨by rfl, rfl⟩) ?_ ?_
       rotate_left
       ·simp only [Act.put, sI_, s0_, sS_, i64_w, i32_w]
        rfl
       refine pure_ (i := 21) (N := some 31) (v := undef) (a' := ?_) #[y_, y_, y_, y_, y_, y_, y_, y_, y_, y_, y_, y_, y_, y_, y_, y_, y_, y_, y_, y_, y_, y_, n_, n_, n_, n_, n_, n_, n_, n_, n_, n_, n_] rfl rfl (any_of HT_.out (by kernel_rfl)) (fun _ _ _ h => h) (Or.inr ⟨by rfl, rfl⟩) ?_ ?_
       rotate_left
       ·simp only [Act.put, sI_, s0_, sS_, i64_w, i32_w]
        rfl
       refine pure_ (i := 22) (N := some 32) (v := undef) (a' := ?_) #[y_, y_, y_, y_, y_, y_, y_, y_, y_, y_, y_, y_, y_, y_, y_, y_, y_, y_, y_, y_, y_, y_, y_, n_, n_, n_, n_, n_, n_, n_, n_, n_, n_] rfl rfl (any_of HT_.out (by kernel_rfl)) (fun _ _ _ h => h) (Or.inr ⟨by rfl, rfl⟩) ?_ ?_
       rotate_left
       ·simp only [Act.put, sI_, s0_, sS_, i64_w, i32_w]
        rfl
       refine pure_ (i := 23) (N := some 33) (v := ?_) (a' := ?_) #[y_, y_, y_, y_, y_, y_, y_, y_, y_, y_, y_, y_, y_, y_, y_, y_, y_, y_, y_, y_, y_, y_, y_, y_, n_, n_, n_, n_, n_, n_, n_, n_, n_] rfl rfl (any_of HT_.out (by kernel_rfl)) (fun _ _ _ h => h) (Or.inl ⟨by rfl, ?_⟩) ?_ ?_
       rotate_left
       ·intro w'
        go_simp
        with_reducible rfl
       rotate_left
       ·simp only [Act.put, sI_, s0_, sS_, i64_w, i32_w]
        rfl
       refine pure_ (i := 24) (N := some 34) (v := ?_) (a' := ?_) #[y_, y_, y_, y_, y_, y_, y_, y_, y_, y_, y_, y_, y_, y_, y_, y_, y_, y_, y_, y_, y_, y_, y_, y_, y_, n_, n_, n_, n_, n_, n_, n_, n_] rfl rfl (any_of HT_.out (by kernel_rfl)) (fun _ _ _ h => h) (Or.inl ⟨by rfl, ?_⟩) ?_ ?_
       rotate_left
       ·intro w'
        go_simp
        with_reducible rfl
       rotate_left
       ·simp only [Act.put, sI_, s0_, sS_, i64_w, i32_w]
        rfl
       refine pure_ (i := 25) (N := some 35) (v := undef) (a' := ?_) #[y_, y_, y_, y_, y_, y_, y_, y_, y_, y_, y_, y_, y_, y_, y_, y_, y_, y_, y_, y_, y_, y_, y_, y_, y_, y_, n_, n_, n_, n_, n_, n_, n_] rfl rfl (any_of HT_.out (by kernel_rfl)) (fun _ _ _ h => h) (Or.inr ⟨by rfl, rfl⟩) ?_ ?_
       rotate_left
       ·simp only [Act.put, sI_, s0_, sS_, i64_w, i32_w]
        rfl
       refine pure_ (i := 26) (N := some 36) (v := undef) (a' := ?_) #[y_, y_, y_, y_, y_, y_, y_, y_, y_, y_, y_, y_, y_, y_, y_, y_, y_, y_, y_, y_, y_, y_, y_, y_, y_, y_, y_, n_, n_, n_, n_, n_, n_] rfl rfl (any_of HT_.out (by kernel_rfl)) (fun _ _ _ h => h) (Or.inr ⟨by rfl, rfl⟩) ?_ ?_
       rotate_left
       ·simp only [Act.put, sI_, s0_, sS_, i64_w, i32_w]
        rfl
       refine pure_ (i := 27) (N := some 37) (v := undef) (a' := ?_) #[y_, y_, y_, y_, y_, y_, y_, y_, y_, y_, y_, y_, y_, y_, y_, y_, y_, y_, y_, y_, y_, y_, y_, y_, y_, y_, y_, y_, n_, n_, n_, n_, n_] rfl rfl (any_of HT_.out (by kernel_rfl)) (fun _ _ _ h => h) (Or.inr ⟨by rfl, rfl⟩) ?_ ?_
       rotate_left
       ·simp only [Act.put, sI_, s0_, sS_, i64_w, i32_w]
        rfl
       refine pure_ (i := 28) (N := some 38) (v := undef) (a' := ?_) #[y_, y_, y_, y_, y_, y_, y_, y_, y_, y_, y_, y_, y_, y_, y_, y_, y_, y_, y_, y_, y_, y_, y_, y_, y_, y_, y_, y_, y_, n_, n_, n_, n_] rfl rfl (any_of HT_.out (by kernel_rfl)) (fun _ _ _ h => h) (Or.inr ⟨by rfl, rfl⟩) ?_ ?_
       rotate_left
       ·simp only [Act.put, sI_, s0_, sS_, i64_w, i32_w]
        rfl
       refine pure_ (i := 29) (N := some 39) (v := undef) (a' := ?_) #[y_, y_, y_, y_, y_, y_, y_, y_, y_, y_, y_, y_, y_, y_, y_, y_, y_, y_, y_, y_, y_, y_, y_, y_, y_, y_, y_, y_, y_, y_, n_, n_, n_] rfl rfl (any_of HT_.out (by kernel_rfl)) (fun _ _ _ h => h) (Or.inr ⟨by rfl, rfl⟩) ?_ ?_
       rotate_left
       ·simp only [Act.put, sI_, s0_, sS_, i64_w, i32_w]
        rfl
       refine pure_ (i := 30) (N := some 40) (v := undef) (a' := ?_) #[y_, y_, y_, y_, y_, y_, y_, y_, y_, y_, y_, y_, y_, y_, y_, y_, y_, y_, y_, y_, y_, y_, y_, y_, y_, y_, y_, y_, y_, y_, y_, n_, n_] rfl rfl (any_of HT_.out (by kernel_rfl)) (fun _ _ _ h => h) (Or.inr ⟨by rfl, rfl⟩) ?_ ?_
       rotate_left
       ·simp only [Act.put, sI_, s0_, sS_, i64_w, i32_w]
        rfl
       refine pure_ (i := 31) (N := some 41) (v := undef) (a' := ?_) #[y_, y_, y_, y_, y_, y_, y_, y_, y_, y_, y_, y_, y_, y_, y_, y_, y_, y_, y_, y_, y_, y_, y_, y_, y_, y_, y_, y_, y_, y_, y_, y_, n_] rfl rfl (any_of HT_.out (by kernel_rfl)) (fun _ _ _ h => h) (Or.inr ⟨by rfl, rfl⟩) ?_ ?_
       rotate_left
       ·simp only [Act.put, sI_, s0_, sS_, i64_w, i32_w]
        rfl
       refine pure_ (i := 32) (N := some 42) (v := ?_) (a' := ?_) #[y_, y_, y_, y_, y_, y_, y_, y_, y_, y_, y_, y_, y_, y_, y_, y_, y_, y_, y_, y_, y_, y_, y_, y_, y_, y_, y_, y_, y_, y_, y_, y_, y_] rfl rfl (any_of HT_.out (by kernel_rfl)) (fun _ _ _ h => h) (Or.inl ⟨by rfl, ?_⟩) ?_ ?_
       rotate_left
       ·intro w'
        go_simp
        with_reducible rfl
       rotate_left
       ·simp only [Act.put, sI_, s0_, sS_, i64_w, i32_w]
        rfl
       refine done_ (done_of HT_.out (by kernel_rfl)) ?_
       try go_wp2
       go_meet
       case rel => exact ⟨_, (true), (by first | rfl | (simp; done) | (simp [*]; done)), H', ⟨by have := HK1.out; first | omega | exact Nat.le_refl _⟩, ⟨by repeat (first | (with_reducible first | exact HB.out | apply below_alloc | apply pw_below_drewN | apply below_drew1) | exact HB.out)⟩⟩
      ·rw [if_neg c5] at H
       have c5b0 : decide (((rd_T44 l0 x3_1).f0) < 1) = false := decide_eq_false c5
       clear c5
       by_cases c7 : x3_1 > 0
       ·rw [if_pos c7] at H
        have c7b0 : decide (0 < x3_1) = true := decide_eq_true c7
        clear c7
        obtain ⟨ji8, hji8⟩ : ∃ j_ : Int, (wrap64 (x3_1 - 1)) = j_ := ⟨_, rfl⟩
        replace H : (if 0 ≤ (ji8) then (if (ji8) < (l0.length : Int) then (if ((rd_T44 l0 x3_1).f0) ≤ ((rd_T44 l0 (ji8)).f0) then (cohousingref28_Valid.j1 k1 l0 x3_1 true) else ((cohousingref28_Volume.f ((rd_T44 l0 x3_1).f2)).bind fun t186 => (cohousingref28_Valid.j1 k1 l0 x3_1 (!t186)))) else (none)) else (none)) = some r := by first | (rw [hji8] at H; exact H) | (simp only [hji8] at H ⊢; exact H)
        have hji8w : (IntKind.i64.wrap (x3_1 - 1)) = ji8 := (i64_w _).trans hji8
        by_cases c9 : 0 ≤ (ji8)
        ·rw [if_pos c9] at H
         have c9b0 : decide (0 ≤ (ji8)) = true := decide_eq_true c9
         clear c9
         by_cases c10 : (ji8) < (l0.length : Int)
         ·rw [if_pos c10] at H
          have c10b0 : decide ((ji8) < (l0.length : Int)) = true := decide_eq_true c10
          clear c10
          by_cases c11 : ((rd_T44 l0 x3_1).f0) ≤ ((rd_T44 l0 (ji8)).f0)
          ·rw [if_pos c11] at H
           have c11b0 : decide (((rd_T44 l0 x3_1).f0) ≤ ((rd_T44 l0 (ji8)).f0)) = true := decide_eq_true c11
           clear c11
           have H' := Aside0.mk H
           clear H
           try go_wp2
           have n0_ := Aside0.mk (below_drew1 HB.out)
           clear HB
           have HB := n0_
           clear n0_
           have p182 : 0 ≤ (x3_1 : Int) := of_decide_eq_true (by first | (with_reducible assumption) | assumption)
           have q182 : x3_1 < (l0.length : Int) := of_decide_eq_true (by first | (with_reducible assumption) | assumption)
           obtain ⟨ad182, e182, hx182_0, hx182_1, hx182_2⟩ := at_T44 HR0.out x3_1 p182 q182
           have hw182_2 := hx182_2
           have hw182_1 := hx182_1
           have hw182_0 := hx182_0
           cases e182
           replace hx182_0 := (HB.out.cell (World.block_lt_of_cell? w _ hx182_0)).trans hx182_0
           replace hx182_1 := (HB.out.cell (World.block_lt_of_cell? w _ hx182_1)).trans hx182_1
           replace hx182_2 := (HB.out.cell (World.block_lt_of_cell? w _ hx182_2)).trans hx182_2
           replace p182 := eq_true p182
           replace q182 := eq_true q182
           have p183 : 0 ≤ (x3_1 : Int) := of_decide_eq_true (by first | (with_reducible assumption) | assumption)
           have q183 : x3_1 < (l0.length : Int) := of_decide_eq_true (by first | (with_reducible assumption) | assumption)
           obtain ⟨ad183, e183, hx183_0, hx183_1, hx183_2⟩ := at_T44 HR0.out x3_1 p183 q183
           have hw183_2 := hx183_2
           have hw183_1 := hx183_1
           have hw183_0 := hx183_0
           obtain rfl : ad182 = ad183 := (by injection e183)
           replace hx183_0 := (HB.out.cell (World.block_lt_of_cell? w _ hx183_0)).trans hx183_0
           replace hx183_1 := (HB.out.cell (World.block_lt_of_cell? w _ hx183_1)).trans hx183_1
           replace hx183_2 := (HB.out.cell (World.block_lt_of_cell? w _ hx183_2)).trans hx183_2
           replace p183 := eq_true p183
           replace q183 := eq_true q183
           have p184 : 0 ≤ ((ji8) : Int) := of_decide_eq_true (by first | (with_reducible assumption) | assumption)
           have q184 : (ji8) < (l0.length : Int) := of_decide_eq_true (by first | (with_reducible assumption) | assumption)
           obtain ⟨ad184, e184, hx184_0, hx184_1, hx184_2⟩ := at_T44 HR0.out (ji8) p184 q184
           have hw184_2 := hx184_2
           have hw184_1 := hx184_1
           have hw184_0 := hx184_0
           obtain rfl : ad182 = ad184 := (by injection e184)
           replace hx184_0 := (HB.out.cell (World.block_lt_of_cell? w _ hx184_0)).trans hx184_0
           replace hx184_1 := (HB.out.cell (World.block_lt_of_cell? w _ hx184_1)).trans hx184_1
           replace hx184_2 := (HB.out.cell (World.block_lt_of_cell? w _ hx184_2)).trans hx184_2
           replace p184 := eq_true p184
           replace q184 := eq_true q184
           refine start_ (n := 33) (S := fun w' => w'.cell? (ad182.add ((x3_1).toNat * 3)) = some (.int .i64 ((rd_T44 l0 x3_1).f0)) ∧ w'.cell? ⟨(ad182.add ((x3_1).toNat * 3)).block, (ad182.add ((x3_1).toNat * 3)).off + 1, none⟩ = some (.int .i64 ((rd_T44 l0 x3_1).f1)) ∧ w'.cell? ⟨(ad182.add ((x3_1).toNat * 3)).block, (ad182.add ((x3_1).toNat * 3)).off + 2, none⟩ = some (.int .i64 ((rd_T44 l0 x3_1).f2)) ∧ w'.cell? (ad182.add ((x3_1).toNat * 3)) = some (.int .i64 ((rd_T44 l0 x3_1).f0)) ∧ w'.cell? ⟨(ad182.add ((x3_1).toNat * 3)).block, (ad182.add ((x3_1).toNat * 3)).off + 1, none⟩ = some (.int .i64 ((rd_T44 l0 x3_1).f1)) ∧ w'.cell? ⟨(ad182.add ((x3_1).toNat * 3)).block, (ad182.add ((x3_1).toNat * 3)).off + 2, none⟩ = some (.int .i64 ((rd_T44 l0 x3_1).f2)) ∧ w'.cell? (ad182.add (((ji8)).toNat * 3)) = some (.int .i64 ((rd_T44 l0 (ji8)).f0)) ∧ w'.cell? ⟨(ad182.add (((ji8)).toNat * 3)).block, (ad182.add (((ji8)).toNat * 3)).off + 1, none⟩ = some (.int .i64 ((rd_T44 l0 (ji8)).f1)) ∧ w'.cell? ⟨(ad182.add (((ji8)).toNat * 3)).block, (ad182.add (((ji8)).toNat * 3)).off + 2, none⟩ = some (.int .i64 ((rd_T44 l0 (ji8)).f2))) (ds := []) #[n_, n_, n_, n_, n_, n_, n_, n_, n_, n_, n_, n_, n_, n_, n_, n_, n_, n_, n_, n_, n_, n_, n_, n_, n_, n_, n_, n_, n_, n_, n_, n_, n_] (by kernel_rfl) rfl rfl ⟨((HB.out.cell (World.block_lt_of_cell? w _ hw182_0)).trans hw182_0), ((HB.out.cell (World.block_lt_of_cell? w _ hw182_1)).trans hw182_1), ((HB.out.cell (World.block_lt_of_cell? w _ hw182_2)).trans hw182_2), ((HB.out.cell (World.block_lt_of_cell? w _ hw183_0)).trans hw183_0), ((HB.out.cell (World.block_lt_of_cell? w _ hw183_1)).trans hw183_1), ((HB.out.cell (World.block_lt_of_cell? w _ hw183_2)).trans hw183_2), ((HB.out.cell (World.block_lt_of_cell? w _ hw184_0)).trans hw184_0), ((HB.out.cell (World.block_lt_of_cell? w _ hw184_1)).trans hw184_1), ((HB.out.cell (World.block_lt_of_cell? w _ hw184_2)).trans hw184_2)⟩ (fun hHeld => ?_); refine with_tabW cohousingref28_Valid.tab4 cohousingref28_Valid.bits4 (fun HT_ HW_ => ?_)
           generalize wr.drew = w12 at HB hx182_0 hx182_1 hx182_2 hx183_0 hx183_1 hx183_2 hx184_0 hx184_1 hx184_2 hHeld ⊢
           refine pure_ (i := 0) (N := some 10) (v := ?_) (a' := ?_) #[y_, n_, n_, n_, n_, n_, n_, n_, n_, n_, n_, n_, n_, n_, n_, n_, n_, n_, n_, n_, n_, n_, n_, n_, n_, n_, n_, n_, n_, n_, n_, n_, n_] rfl rfl (any_of HT_.out (by kernel_rfl)) (fun _ _ _ h => h) (Or.inl ⟨by rfl, ?_⟩) ?_ ?_
           rotate_left
           ·intro w'
            go_simp
            with_reducible rfl
           rotate_left
           ·simp only [Act.put, sI_, s0_, sS_, i64_w, i32_w]
            rfl
           refine pure_ (i := 1) (N := some 11) (v := ?_) (a' := ?_) #[y_, y_, n_, n_, n_, n_, n_, n_, n_, n_, n_, n_, n_, n_, n_, n_, n_, n_, n_, n_, n_, n_, n_, n_, n_, n_, n_, n_, n_, n_, n_, n_, n_] rfl rfl (any_of HT_.out (by kernel_rfl)) (fun _ _ _ h => h) (Or.inl ⟨by rfl, ?_⟩) ?_ ?_
           rotate_left
           ·intro w'
            go_simp
            with_reducible rfl
           rotate_left
           ·simp only [Act.put, sI_, s0_, sS_, i64_w, i32_w]
            rfl
           refine pure_ (i := 2) (N := some 12) (v := ?_) (a' := ?_) #[y_, y_, y_, n_, n_, n_, n_, n_, n_, n_, n_, n_, n_, n_, n_, n_, n_, n_, n_, n_, n_, n_, n_, n_, n_, n_, n_, n_, n_, n_, n_, n_, n_] rfl rfl (any_of HT_.out (by kernel_rfl)) (fun _ _ _ h => h) (Or.inl ⟨by rfl, ?_⟩) ?_ ?_
           rotate_left
           ·intro w'
            go_simp
            with_reducible rfl
           rotate_left
           ·simp only [Act.put, sI_, s0_, sS_, i64_w, i32_w]
            rfl
           refine pure_ (i := 3) (N := some 13) (v := ?_) (a' := ?_) #[y_, y_, y_, y_, n_, n_, n_, n_, n_, n_, n_, n_, n_, n_, n_, n_, n_, n_, n_, n_, n_, n_, n_, n_, n_, n_, n_, n_, n_, n_, n_, n_, n_] rfl rfl (any_of HT_.out (by kernel_rfl)) (fun _ _ _ h => h) (Or.inl ⟨by rfl, ?_⟩) ?_ ?_
           rotate_left
           ·intro w'
            go_simp
            with_reducible rfl
           rotate_left
           ·simp only [Act.put, sI_, s0_, sS_, i64_w, i32_w]
            rfl
           refine take_ (i := 4) (N := some 14) (v := ?_) (a' := ?_) #[y_, y_, y_, y_, y_, n_, n_, n_, n_, n_, n_, n_, n_, n_, n_, n_, n_, n_, n_, n_, n_, n_, n_, n_, n_, n_, n_, n_, n_, n_, n_, n_, n_] rfl rfl (take_ofW HT_.out HW_.out (by kernel_rfl)) (fun _ _ _ h => h) (Or.inl ⟨by rfl, ?_⟩) hHeld ?_ ?_
           rotate_left
           ·rintro w' ⟨s0, s1, s2, s3, s4, s5, s6, s7, s8⟩
            go_simp
            with_reducible rfl
           rotate_left
           ·simp only [Act.put, sI_, s0_, sS_, i64_w, i32_w]
            rfl
           refine pure_ (i := 5) (N := some 15) (v := ?_) (a' := ?_) #[y_, y_, y_, y_, y_, y_, n_, n_, n_, n_, n_, n_, n_, n_, n_, n_, n_, n_, n_, n_, n_, n_, n_, n_, n_, n_, n_, n_, n_, n_, n_, n_, n_] rfl rfl (any_of HT_.out (by kernel_rfl)) (fun _ _ _ h => h) (Or.inl ⟨by rfl, ?_⟩) ?_ ?_
           rotate_left
           ·intro w'
            go_simp
            with_reducible rfl
           rotate_left
           ·simp only [Act.put, sI_, s0_, sS_, i64_w, i32_w]
            rfl
           refine pure_ (i := 6) (N := some 16) (v := ?_) (a' := ?_) #[y_, y_, y_, y_, y_, y_, y_, n_, n_, n_, n_, n_, n_, n_, n_, n_, n_, n_, n_, n_, n_, n_, n_, n_, n_, n_, n_, n_, n_, n_, n_, n_, n_] rfl rfl (any_of HT_.out (by kernel_rfl)) (fun _ _ _ h => h) (Or.inl ⟨by rfl, ?_⟩) ?_ ?_
           rotate_left
           ·intro w'
            go_simp
            with_reducible rfl
           rotate_left
           ·simp only [Act.put, sI_, s0_, sS_, i64_w, i32_w]
            rfl
           refine pure_ (i := 7) (N := some 17) (v := ?_) (a' := ?_) #[y_, y_, y_, y_, y_, y_, y_, y_, n_, n_, n_, n_, n_, n_, n_, n_, n_, n_, n_, n_, n_, n_, n_, n_, n_, n_, n_, n_, n_, n_, n_, n_, n_] rfl rfl (any_of HT_.out (by kernel_rfl)) (fun _ _ _ h => h) (Or.inl ⟨by rfl, ?_⟩) ?_ ?_
           rotate_left
           ·intro w'
            go_simp
            with_reducible rfl
           rotate_left
           ·simp only [Act.put, sI_, s0_, sS_, i64_w, i32_w]
            rfl
           refine pure_ (i := 8) (N := some 18) (v := ?_) (a' := ?_) #[y_, y_, y_, y_, y_, y_, y_, y_, y_, n_, n_, n_, n_, n_, n_, n_, n_, n_, n_, n_, n_, n_, n_, n_, n_, n_, n_, n_, n_, n_, n_, n_, n_] rfl rfl (any_of HT_.out (by kernel_rfl)) (fun _ _ _ h => h) (Or.inl ⟨by rfl, ?_⟩) ?_ ?_
           rotate_left
           ·intro w'
            go_simp
            with_reducible rfl
           rotate_left
           ·simp only [Act.put, sI_, s0_, sS_, i64_w, i32_w]
            rfl
           refine pure_ (i := 9) (N := some 19) (v := ?_) (a' := ?_) #[y_, y_, y_, y_, y_, y_, y_, y_, y_, y_, n_, n_, n_, n_, n_, n_, n_, n_, n_, n_, n_, n_, n_, n_, n_, n_, n_, n_, n_, n_, n_, n_, n_] rfl rfl (any_of HT_.out (by kernel_rfl)) (fun _ _ _ h => h) (Or.inl ⟨by rfl, ?_⟩) ?_ ?_
           rotate_left
           ·intro w'
            go_simp
            with_reducible rfl
           rotate_left
           ·simp only [Act.put, sI_, s0_, sS_, i64_w, i32_w]
            rfl
           refine pure_ (i := 10) (N := some 20) (v := ?_) (a' := ?_) #[y_, y_, y_, y_, y_, y_, y_, y_, y_, y_, y_, n_, n_, n_, n_, n_, n_, n_, n_, n_, n_, n_, n_, n_, n_, n_, n_, n_, n_, n_, n_, n_, n_] rfl rfl (any_of HT_.out (by kernel_rfl)) (fun _ _ _ h => h) (Or.inl ⟨by rfl, ?_⟩) ?_ ?_
           rotate_left
           ·intro w'
            go_simp
            with_reducible rfl
           rotate_left
           ·simp only [Act.put, sI_, s0_, sS_, i64_w, i32_w]
            rfl
           refine pure_ (i := 11) (N := some 21) (v := ?_) (a' := ?_) #[y_, y_, y_, y_, y_, y_, y_, y_, y_, y_, y_, y_, n_, n_, n_, n_, n_, n_, n_, n_, n_, n_, n_, n_, n_, n_, n_, n_, n_, n_, n_, n_, n_] rfl rfl (any_of HT_.out (by kernel_rfl)) (fun _ _ _ h => h) (Or.inl ⟨by rfl, ?_⟩) ?_ ?_
           rotate_left
           ·intro w'
            go_simp
            with_reducible rfl
           rotate_left
           ·simp only [Act.put, sI_, s0_, sS_, i64_w, i32_w]
            rfl
           refine pure_ (i := 12) (N := some 22) (v := ?_) (a' := ?_) #[y_, y_, y_, y_, y_, y_, y_, y_, y_, y_, y_, y_, y_, n_, n_, n_, n_, n_, n_, n_, n_, n_, n_, n_, n_, n_, n_, n_, n_, n_, n_, n_, n_] rfl rfl (any_of HT_.out (by kernel_rfl)) (fun _ _ _ h => h) (Or.inl ⟨by rfl, ?_⟩) ?_ ?_
           rotate_left
           ·intro w'
            go_simp
            with_reducible rfl
           rotate_left
           ·simp only [Act.put, sI_, s0_, sS_, i64_w, i32_w]
            rfl
           refine pure_ (i := 13) (N := some 23) (v := ?_) (a' := ?_) #[y_, y_, y_, y_, y_, y_, y_, y_, y_, y_, y_, y_, y_, y_, n_, n_, n_, n_, n_, n_, n_, n_, n_, n_, n_, n_, n_, n_, n_, n_, n_, n_, n_] rfl rfl (any_of HT_.out (by kernel_rfl)) (fun _ _ _ h => h) (Or.inl ⟨by rfl, ?_⟩) ?_ ?_
           rotate_left
           ·intro w'
            go_simp
            with_reducible rfl
           rotate_left
           ·simp only [Act.put, sI_, s0_, sS_, i64_w, i32_w]
            rfl
           refine pure_ (i := 15) (N := some 25) (v := ?_) (a' := ?_) #[y_, y_, y_, y_, y_, y_, y_, y_, y_, y_, y_, y_, y_, y_, n_, y_, n_, n_, n_, n_, n_, n_, n_, n_, n_, n_, n_, n_, n_, n_, n_, n_, n_] rfl rfl (any_of HT_.out (by kernel_rfl)) (fun _ _ _ h => h) (Or.inl ⟨by rfl, ?_⟩) ?_ ?_
           rotate_left
           ·intro w'
            go_simp
            with_reducible rfl
           rotate_left
           ·simp only [Act.put, sI_, s0_, sS_, i64_w, i32_w]
            rfl
           refine pure_ (i := 16) (N := some 26) (v := ?_) (a' := ?_) #[y_, y_, y_, y_, y_, y_, y_, y_, y_, y_, y_, y_, y_, y_, n_, y_, y_, n_, n_, n_, n_, n_, n_, n_, n_, n_, n_, n_, n_, n_, n_, n_, n_] rfl rfl (any_of HT_.out (by kernel_rfl)) (fun _ _ _ h => h) (Or.inl ⟨by rfl, ?_⟩) ?_ ?_
           rotate_left
           ·intro w'
            go_simp
            with_reducible rfl
           rotate_left
           ·simp only [Act.put, sI_, s0_, sS_, i64_w, i32_w]
            rfl
           refine pure_ (i := 17) (N := some 27) (v := ?_) (a' := ?_) #[y_, y_, y_, y_, y_, y_, y_, y_, y_, y_, y_, y_, y_, y_, n_, y_, y_, y_, n_, n_, n_, n_, n_, n_, n_, n_, n_, n_, n_, n_, n_, n_, n_] rfl rfl (any_of HT_.out (by kernel_rfl)) (fun _ _ _ h => h) (Or.inl ⟨by rfl, ?_⟩) ?_ ?_
           rotate_left
           ·intro w'
            go_simp
            with_reducible rfl
           rotate_left
           ·simp only [Act.put, sI_, s0_, sS_, i64_w, i32_w]
            rfl
           refine pure_ (i := 18) (N := some 28) (v := ?_) (a' := ?_) #[y_, y_, y_, y_, y_, y_, y_, y_, y_, y_, y_, y_, y_, y_, n_, y_, y_, y_, y_, n_, n_, n_, n_, n_, n_, n_, n_, n_, n_, n_, n_, n_, n_] rfl rfl (any_of HT_.out (by kernel_rfl)) (fun _ _ _ h => h) (Or.inl ⟨by rfl, ?_⟩) ?_ ?_
           rotate_left
           ·intro w'
            go_simp
            with_reducible rfl
           rotate_left
           ·simp only [Act.put, sI_, s0_, sS_, i64_w, i32_w]
            rfl
           refine pure_ (i := 19) (N := some 29) (v := ?_) (a' := ?_) #[y_, y_, y_, y_, y_, y_, y_, y_, y_, y_, y_, y_, y_, y_, n_, y_, y_, y_, y_, y_, n_, n_, n_, n_, n_, n_, n_, n_, n_, n_, n_, n_, n_] rfl rfl (any_of HT_.out (by kernel_rfl)) (fun _ _ _ h => h) (Or.inl ⟨by rfl, ?_⟩) ?_ ?_
           rotate_left
           ·intro w'
            go_simp
            with_reducible rfl
           rotate_left
           ·simp only [Act.put, sI_, s0_, sS_, i64_w, i32_w]
            rfl
           refine take_ (i := 14) (N := some 24) (v := ?_) (a' := ?_) #[y_, y_, y_, y_, y_, y_, y_, y_, y_, y_, y_, y_, y_, y_, y_, y_, y_, y_, y_, y_, n_, n_, n_, n_, n_, n_, n_, n_, n_, n_, n_, n_, n_] rfl rfl (take_ofW HT_.out HW_.out (by kernel_rfl)) (fun _ _ _ h => h) (Or.inl ⟨by rfl, ?_⟩) hHeld ?_ ?_
           rotate_left
           ·rintro w' ⟨s0, s1, s2, s3, s4, s5, s6, s7, s8⟩
            go_simp
            with_reducible rfl
           rotate_left
           ·simp only [Act.put, sI_, s0_, sS_, i64_w, i32_w]
            rfl
           refine take_ (i := 20) (N := some 30) (v := ?_) (a' := ?_) #[y_, y_, y_, y_, y_, y_, y_, y_, y_, y_, y_, y_, y_, y_, y_, y_, y_, y_, y_, y_, y_, n_, n_, n_, n_, n_, n_, n_, n_, n_, n_, n_, n_] rfl rfl (take_ofW HT_.out HW_.out (by kernel_rfl)) (fun _ _ _ h => h) (Or.inl ⟨by rfl, ?_⟩) hHeld ?_ ?_
           rotate_left
           ·rintro w' ⟨s0, s1, s2, s3, s4, s5, s6, s7, s8⟩
            go_simp
            with_reducible rfl
           rotate_left
           ·simp only [Act.put, sI_, s0_, sS_, i64_w, i32_w]
            rfl
           refine pure_ (i := 21) (N := some 31) (v := ?_) (a' := ?_) #[y_, y_, y_, y_, y_, y_, y_, y_, y_, y_, y_, y_, y_, y_, y_, y_, y_, y_, y_, y_, y_, y_, n_, n_, n_, n_, n_, n_, n_, n_, n_, n_, n_] rfl rfl (any_of HT_.out (by kernel_rfl)) (fun _ _ _ h => h) (Or.inl ⟨by rfl, ?_⟩) ?_ ?_
           rotate_left
           ·intro w'
            go_simp
            with_reducible rfl
           rotate_left
           ·simp only [Act.put, sI_, s0_, sS_, i64_w, i32_w]
            rfl
           refine pure_ (i := 22) (N := some 32) (v := ?_) (a' := ?_) #[y_, y_, y_, y_, y_, y_, y_, y_, y_, y_, y_, y_, y_, y_, y_, y_, y_, y_, y_, y_, y_, y_, y_, n_, n_, n_, n_, n_, n_, n_, n_, n_, n_] rfl rfl (any_of HT_.out (by kernel_rfl)) (fun _ _ _ h => h) (Or.inl ⟨by rfl, ?_⟩) ?_ ?_
           rotate_left
           ·intro w'
            go_simp
            with_reducible rfl
           rotate_left
           ·simp only [Act.put, sI_, s0_, sS_, i64_w, i32_w]
            rfl
           refine pure_ (i := 23) (N := some 33) (v := ?_) (a' := ?_) #[y_, y_, y_, y_, y_, y_, y_, y_, y_, y_, y_, y_, y_, y_, y_, y_, y_, y_, y_, y_, y_, y_, y_, y_, n_, n_, n_, n_, n_, n_, n_, n_, n_] rfl rfl (any_of HT_.out (by kernel_rfl)) (fun _ _ _ h => h) (Or.inl ⟨by rfl, ?_⟩) ?_ ?_
           rotate_left
           ·intro w'
            go_simp
            with_reducible rfl
           rotate_left
           ·simp only [Act.put, sI_, s0_, sS_, i64_w, i32_w]
            rfl
           refine pure_ (i := 24) (N := some 34) (v := ?_) (a' := ?_) #[y_, y_, y_, y_, y_, y_, y_, y_, y_, y_, y_, y_, y_, y_, y_, y_, y_, y_, y_, y_, y_, y_, y_, y_, y_, n_, n_, n_, n_, n_, n_, n_, n_] rfl rfl (any_of HT_.out (by kernel_rfl)) (fun _ _ _ h => h) (Or.inl ⟨by rfl, ?_⟩) ?_ ?_
           rotate_left
           ·intro w'
            go_simp
            with_reducible rfl
           rotate_left
           ·simp only [Act.put, sI_, s0_, sS_, i64_w, i32_w]
            rfl
           refine pure_ (i := 25) (N := some 35) (v := undef) (a' := ?_) #[y_, y_, y_, y_, y_, y_, y_, y_, y_, y_, y_, y_, y_, y_, y_, y_, y_, y_, y_, y_, y_, y_, y_, y_, y_, y_, n_, n_, n_, n_, n_, n_, n_] rfl rfl (any_of HT_.out (by kernel_rfl)) (fun _ _ _ h => h) (Or.inr ⟨by rfl, rfl⟩) ?_ ?_
           rotate_left
           ·simp only [Act.put, sI_, s0_, sS_, i64_w, i32_w]
            rfl
           refine pure_ (i := 26) (N := some 36) (v := undef) (a' := ?_) #[y_, y_, y_, y_, y_, y_, y_, y_, y_, y_, y_, y_, y_, y_, y_, y_, y_, y_, y_, y_, y_, y_, y_, y_, y_, y_, y_, n_, n_, n_, n_, n_, n_] rfl rfl (any_of HT_.out (by kernel_rfl)) (fun _ _ _ h => h) (Or.inr ⟨by rfl, rfl⟩) ?_ ?_
           rotate_left
           ·simp only [Act.put, sI_, s0_, sS_, i64_w, i32_w]
            rfl
           refine pure_ (i := 27) (N := some 37) (v := undef) (a' := ?_) #[y_, y_, y_, y_, y_, y_, y_, y_, y_, y_, y_, y_, y_, y_, y_, y_, y_, y_, y_, y_, y_, y_, y_, y_, y_, y_, y_, y_, n_, n_, n_, n_, n_] rfl rfl (any_of HT_.out (by kernel_rfl)) (fun _ _ _ h => h) (Or.inr ⟨by rfl, rfl⟩) ?_ ?_
           rotate_left
           ·simp only [Act.put, sI_, s0_, sS_, i64_w, i32_w]
            rfl
           refine pure_ (i := 28) (N := some 38) (v := undef) (a' := ?_) #[y_, y_, y_, y_, y_, y_, y_, y_, y_, y_, y_, y_, y_, y_, y_, y_, y_, y_, y_, y_, y_, y_, y_, y_, y_, y_, y_, y_, y_, n_, n_, n_, n_] rfl rfl (any_of HT_.out (by kernel_rfl)) (fun _ _ _ h => h) (Or.inr ⟨by rfl, rfl⟩) ?_ ?_
           rotate_left
           ·simp only [Act.put, sI_, s0_, sS_, i64_w, i32_w]
            rfl
           refine pure_ (i := 29) (N := some 39) (v := undef) (a' := ?_) #[y_, y_, y_, y_, y_, y_, y_, y_, y_, y_, y_, y_, y_, y_, y_, y_, y_, y_, y_, y_, y_, y_, y_, y_, y_, y_, y_, y_, y_, y_, n_, n_, n_] rfl rfl (any_of HT_.out (by kernel_rfl)) (fun _ _ _ h => h) (Or.inr ⟨by rfl, rfl⟩) ?_ ?_
           rotate_left
           ·simp only [Act.put, sI_, s0_, sS_, i64_w, i32_w]
            rfl
           refine pure_ (i := 30) (N := some 40) (v := undef) (a' := ?_) #[y_, y_, y_, y_, y_, y_, y_, y_, y_, y_, y_, y_, y_, y_, y_, y_, y_, y_, y_, y_, y_, y_, y_, y_, y_, y_, y_, y_, y_, y_, y_, n_, n_] rfl rfl (any_of HT_.out (by kernel_rfl)) (fun _ _ _ h => h) (Or.inr ⟨by rfl, rfl⟩) ?_ ?_
           rotate_left
           ·simp only [Act.put, sI_, s0_, sS_, i64_w, i32_w]
            rfl
           refine pure_ (i := 31) (N := some 41) (v := undef) (a' := ?_) #[y_, y_, y_, y_, y_, y_, y_, y_, y_, y_, y_, y_, y_, y_, y_, y_, y_, y_, y_, y_, y_, y_, y_, y_, y_, y_, y_, y_, y_, y_, y_, y_, n_] rfl rfl (any_of HT_.out (by kernel_rfl)) (fun _ _ _ h => h) (Or.inr ⟨by rfl, rfl⟩) ?_ ?_
           rotate_left
           ·simp only [Act.put, sI_, s0_, sS_, i64_w, i32_w]
            rfl
           refine pure_ (i := 32) (N := some 42) (v := ?_) (a' := ?_) #[y_, y_, y_, y_, y_, y_, y_, y_, y_, y_, y_, y_, y_, y_, y_, y_, y_, y_, y_, y_, y_, y_, y_, y_, y_, y_, y_, y_, y_, y_, y_, y_, y_] rfl rfl (any_of HT_.out (by kernel_rfl)) (fun _ _ _ h => h) (Or.inl ⟨by rfl, ?_⟩) ?_ ?_
           rotate_left
           ·intro w'
            go_simp
            with_reducible rfl
           rotate_left
           ·simp only [Act.put, sI_, s0_, sS_, i64_w, i32_w]
            rfl
           refine done_ (done_of HT_.out (by kernel_rfl)) ?_
           try go_wp2
           go_meet
           case rel => exact ⟨_, (true), (by first | rfl | (simp; done) | (simp [*]; done)), H', ⟨by have := HK1.out; first | omega | exact Nat.le_refl _⟩, ⟨by repeat (first | (with_reducible first | exact HB.out | apply below_alloc | apply pw_below_drewN | apply below_drew1) | exact HB.out)⟩⟩
          ·rw [if_neg c11] at H
           have c11b0 : decide (((rd_T44 l0 x3_1).f0) ≤ ((rd_T44 l0 (ji8)).f0)) = false := decide_eq_false c11
           clear c11
           replace H := Option.bind_eq_some_iff.mp H
           obtain ⟨t186, A130, H⟩ := H
           replace H : (cohousingref28_Valid.j1 k1 l0 x3_1 (!t186)) = some r := H
           have A13 := Aside0.mk A130
           clear A130
           have H' := Aside0.mk H
           clear H
           try go_wp2
           have n0_ := Aside0.mk (below_drew1 HB.out)
           clear HB
           have HB := n0_
           clear n0_
           have p182 : 0 ≤ (x3_1 : Int) := of_decide_eq_true (by first | (with_reducible assumption) | assumption)
           have q182 : x3_1 < (l0.length : Int) := of_decide_eq_true (by first | (with_reducible assumption) | assumption)
           obtain ⟨ad182, e182, hx182_0, hx182_1, hx182_2⟩ := at_T44 HR0.out x3_1 p182 q182
           have hw182_2 := hx182_2
           have hw182_1 := hx182_1
           have hw182_0 := hx182_0
           cases e182
           replace hx182_0 := (HB.out.cell (World.block_lt_of_cell? w _ hx182_0)).trans hx182_0
           replace hx182_1 := (HB.out.cell (World.block_lt_of_cell? w _ hx182_1)).trans hx182_1
           replace hx182_2 := (HB.out.cell (World.block_lt_of_cell? w _ hx182_2)).trans hx182_2
           replace p182 := eq_true p182
           replace q182 := eq_true q182
           have p183 : 0 ≤ (x3_1 : Int) := of_decide_eq_true (by first | (with_reducible assumption) | assumption)
           have q183 : x3_1 < (l0.length : Int) := of_decide_eq_true (by first | (with_reducible assumption) | assumption)
           obtain ⟨ad183, e183, hx183_0, hx183_1, hx183_2⟩ := at_T44 HR0.out x3_1 p183 q183
           have hw183_2 := hx183_2
           have hw183_1 := hx183_1
           have hw183_0 := hx183_0
           obtain rfl : ad182 = ad183 := (by injection e183)
           replace hx183_0 := (HB.out.cell (World.block_lt_of_cell? w _ hx183_0)).trans hx183_0
           replace hx183_1 := (HB.out.cell (World.block_lt_of_cell? w _ hx183_1)).trans hx183_1
           replace hx183_2 := (HB.out.cell (World.block_lt_of_cell? w _ hx183_2)).trans hx183_2
           replace p183 := eq_true p183
           replace q183 := eq_true q183
           have p184 : 0 ≤ ((ji8) : Int) := of_decide_eq_true (by first | (with_reducible assumption) | assumption)
           have q184 : (ji8) < (l0.length : Int) := of_decide_eq_true (by first | (with_reducible assumption) | assumption)
           obtain ⟨ad184, e184, hx184_0, hx184_1, hx184_2⟩ := at_T44 HR0.out (ji8) p184 q184
           have hw184_2 := hx184_2
           have hw184_1 := hx184_1
           have hw184_0 := hx184_0
           obtain rfl : ad182 = ad184 := (by injection e184)
           replace hx184_0 := (HB.out.cell (World.block_lt_of_cell? w _ hx184_0)).trans hx184_0
           replace hx184_1 := (HB.out.cell (World.block_lt_of_cell? w _ hx184_1)).trans hx184_1
           replace hx184_2 := (HB.out.cell (World.block_lt_of_cell? w _ hx184_2)).trans hx184_2
           replace p184 := eq_true p184
           replace q184 := eq_true q184
           have p185 : 0 ≤ (x3_1 : Int) := of_decide_eq_true (by first | (with_reducible assumption) | assumption)
           have q185 : x3_1 < (l0.length : Int) := of_decide_eq_true (by first | (with_reducible assumption) | assumption)
           obtain ⟨ad185, e185, hx185_0, hx185_1, hx185_2⟩ := at_T44 HR0.out x3_1 p185 q185
           have hw185_2 := hx185_2
           have hw185_1 := hx185_1
           have hw185_0 := hx185_0
           obtain rfl : ad182 = ad185 := (by injection e185)
           replace hx185_0 := (HB.out.cell (World.block_lt_of_cell? w _ hx185_0)).trans hx185_0
           replace hx185_1 := (HB.out.cell (World.block_lt_of_cell? w _ hx185_1)).trans hx185_1
           replace hx185_2 := (HB.out.cell (World.block_lt_of_cell? w _ hx185_2)).trans hx185_2
           replace p185 := eq_true p185
           replace q185 := eq_true q185
           refine start_ (n := 33) (S := fun w' => w'.cell? (ad182.add ((x3_1).toNat * 3)) = some (.int .i64 ((rd_T44 l0 x3_1).f0)) ∧ w'.cell? ⟨(ad182.add ((x3_1).toNat * 3)).block, (ad182.add ((x3_1).toNat * 3)).off + 1, none⟩ = some (.int .i64 ((rd_T44 l0 x3_1).f1)) ∧ w'.cell? ⟨(ad182.add ((x3_1).toNat * 3)).block, (ad182.add ((x3_1).toNat * 3)).off + 2, none⟩ = some (.int .i64 ((rd_T44 l0 x3_1).f2)) ∧ w'.cell? (ad182.add ((x3_1).toNat * 3)) = some (.int .i64 ((rd_T44 l0 x3_1).f0)) ∧ w'.cell? ⟨(ad182.add ((x3_1).toNat * 3)).block, (ad182.add ((x3_1).toNat * 3)).off + 1, none⟩ = some (.int .i64 ((rd_T44 l0 x3_1).f1)) ∧ w'.cell? ⟨(ad182.add ((x3_1).toNat * 3)).block, (ad182.add ((x3_1).toNat * 3)).off + 2, none⟩ = some (.int .i64 ((rd_T44 l0 x3_1).f2)) ∧ w'.cell? (ad182.add (((ji8)).toNat * 3)) = some (.int .i64 ((rd_T44 l0 (ji8)).f0)) ∧ w'.cell? ⟨(ad182.add (((ji8)).toNat * 3)).block, (ad182.add (((ji8)).toNat * 3)).off + 1, none⟩ = some (.int .i64 ((rd_T44 l0 (ji8)).f1)) ∧ w'.cell? ⟨(ad182.add (((ji8)).toNat * 3)).block, (ad182.add (((ji8)).toNat * 3)).off + 2, none⟩ = some (.int .i64 ((rd_T44 l0 (ji8)).f2)) ∧ w'.cell? (ad182.add ((x3_1).toNat * 3)) = some (.int .i64 ((rd_T44 l0 x3_1).f0)) ∧ w'.cell? ⟨(ad182.add ((x3_1).toNat * 3)).block, (ad182.add ((x3_1).toNat * 3)).off + 1, none⟩ = some (.int .i64 ((rd_T44 l0 x3_1).f1)) ∧ w'.cell? ⟨(ad182.add ((x3_1).toNat * 3)).block, (ad182.add ((x3_1).toNat * 3)).off + 2, none⟩ = some (.int .i64 ((rd_T44 l0 x3_1).f2))) (ds := []) #[n_, n_, n_, n_, n_, n_, n_, n_, n_, n_, n_, n_, n_, n_, n_, n_, n_, n_, n_, n_, n_, n_, n_, n_, n_, n_, n_, n_, n_, n_, n_, n_, n_] (by kernel_rfl) rfl rfl ⟨((HB.out.cell (World.block_lt_of_cell? w _ hw182_0)).trans hw182_0), ((HB.out.cell (World.block_lt_of_cell? w _ hw182_1)).trans hw182_1), ((HB.out.cell (World.block_lt_of_cell? w _ hw182_2)).trans hw182_2), ((HB.out.cell (World.block_lt_of_cell? w _ hw183_0)).trans hw183_0), ((HB.out.cell (World.block_lt_of_cell? w _ hw183_1)).trans hw183_1), ((HB.out.cell (World.block_lt_of_cell? w _ hw183_2)).trans hw183_2), ((HB.out.cell (World.block_lt_of_cell? w _ hw184_0)).trans hw184_0), ((HB.out.cell (World.block_lt_of_cell? w _ hw184_1)).trans hw184_1), ((HB.out.cell (World.block_lt_of_cell? w _ hw184_2)).trans hw184_2), ((HB.out.cell (World.block_lt_of_cell? w _ hw185_0)).trans hw185_0), ((HB.out.cell (World.block_lt_of_cell? w _ hw185_1)).trans hw185_1), ((HB.out.cell (World.block_lt_of_cell? w _ hw185_2)).trans hw185_2)⟩ (fun hHeld => ?_); refine with_tabW cohousingref28_Valid.tab4 cohousingref28_Valid.bits4 (fun HT_ HW_ => ?_)
           generalize wr.drew = w14 at HB hx182_0 hx182_1 hx182_2 hx183_0 hx183_1 hx183_2 hx184_0 hx184_1 hx184_2 hx185_0 hx185_1 hx185_2 hHeld ⊢
           refine pure_ (i := 0) (N := some 10) (v := ?_) (a' := ?_) #[y_, n_, n_, n_, n_, n_, n_, n_, n_, n_, n_, n_, n_, n_, n_, n_, n_, n_, n_, n_, n_, n_, n_, n_, n_, n_, n_, n_, n_, n_, n_, n_, n_] rfl rfl (any_of HT_.out (by kernel_rfl)) (fun _ _ _ h => h) (Or.inl ⟨by rfl, ?_⟩) ?_ ?_
           rotate_left
           ·intro w'
            go_simp
            with_reducible rfl
           rotate_left
           ·simp only [Act.put, sI_, s0_, sS_, i64_w, i32_w]
            rfl
           refine pure_ (i := 1) (N := some 11) (v := ?_) (a' := ?_) #[y_, y_, n_, n_, n_, n_, n_, n_, n_, n_, n_, n_, n_, n_, n_, n_, n_, n_, n_, n_, n_, n_, n_, n_, n_, n_, n_, n_, n_, n_, n_, n_, n_] rfl rfl (any_of HT_.out (by kernel_rfl)) (fun _ _ _ h => h) (Or.inl ⟨by rfl, ?_⟩) ?_ ?_
           rotate_left
           ·intro w'
            go_simp
            with_reducible rfl
           rotate_left
           ·simp only [Act.put, sI_, s0_, sS_, i64_w, i32_w]
            rfl
           refine pure_ (i := 2) (N := some 12) (v := ?_) (a' := ?_) #[y_, y_, y_, n_, n_, n_, n_, n_, n_, n_, n_, n_, n_, n_, n_, n_, n_, n_, n_, n_, n_, n_, n_, n_, n_, n_, n_, n_, n_, n_, n_, n_, n_] rfl rfl (any_of HT_.out (by kernel_rfl)) (fun _ _ _ h => h) (Or.inl ⟨by rfl, ?_⟩) ?_ ?_
           rotate_left
           ·intro w'
            go_simp
            with_reducible rfl
           rotate_left
           ·simp only [Act.put, sI_, s0_, sS_, i64_w, i32_w]
            rfl
           refine pure_ (i := 3) (N := some 13) (v := ?_) (a' := ?_) #[y_, y_, y_, y_, n_, n_, n_, n_, n_, n_, n_, n_, n_, n_, n_, n_, n_, n_, n_, n_, n_, n_, n_, n_, n_, n_, n_, n_, n_, n_, n_, n_, n_] rfl rfl (any_of HT_.out (by kernel_rfl)) (fun _ _ _ h => h) (Or.inl ⟨by rfl, ?_⟩) ?_ ?_
           rotate_left
           ·intro w'
            go_simp
            with_reducible rfl
           rotate_left
           ·simp only [Act.put, sI_, s0_, sS_, i64_w, i32_w]
            rfl
           refine take_ (i := 4) (N := some 14) (v := ?_) (a' := ?_) #[y_, y_, y_, y_, y_, n_, n_, n_, n_, n_, n_, n_, n_, n_, n_, n_, n_, n_, n_, n_, n_, n_, n_, n_, n_, n_, n_, n_, n_, n_, n_, n_, n_] rfl rfl (take_ofW HT_.out HW_.out (by kernel_rfl)) (fun _ _ _ h => h) (Or.inl ⟨by rfl, ?_⟩) hHeld ?_ ?_
           rotate_left
           ·rintro w' ⟨s0, s1, s2, s3, s4, s5, s6, s7, s8, s9, s10, s11⟩
            go_simp
            with_reducible rfl
           rotate_left
           ·simp only [Act.put, sI_, s0_, sS_, i64_w, i32_w]
            rfl
           refine pure_ (i := 5) (N := some 15) (v := ?_) (a' := ?_) #[y_, y_, y_, y_, y_, y_, n_, n_, n_, n_, n_, n_, n_, n_, n_, n_, n_, n_, n_, n_, n_, n_, n_, n_, n_, n_, n_, n_, n_, n_, n_, n_, n_] rfl rfl (any_of HT_.out (by kernel_rfl)) (fun _ _ _ h => h) (Or.inl ⟨by rfl, ?_⟩) ?_ ?_
           rotate_left
           ·intro w'
            go_simp
            with_reducible rfl
           rotate_left
           ·simp only [Act.put, sI_, s0_, sS_, i64_w, i32_w]
            rfl
           refine pure_ (i := 6) (N := some 16) (v := ?_) (a' := ?_) #[y_, y_, y_, y_, y_, y_, y_, n_, n_, n_, n_, n_, n_, n_, n_, n_, n_, n_, n_, n_, n_, n_, n_, n_, n_, n_, n_, n_, n_, n_, n_, n_, n_] rfl rfl (any_of HT_.out (by kernel_rfl)) (fun _ _ _ h => h) (Or.inl ⟨by rfl, ?_⟩) ?_ ?_
           rotate_left
           ·intro w'
            go_simp
            with_reducible rfl
           rotate_left
           ·simp only [Act.put, sI_, s0_, sS_, i64_w, i32_w]
            rfl
           refine pure_ (i := 7) (N := some 17) (v := ?_) (a' := ?_) #[y_, y_, y_, y_, y_, y_, y_, y_, n_, n_, n_, n_, n_, n_, n_, n_, n_, n_, n_, n_, n_, n_, n_, n_, n_, n_, n_, n_, n_, n_, n_, n_, n_] rfl rfl (any_of HT_.out (by kernel_rfl)) (fun _ _ _ h => h) (Or.inl ⟨by rfl, ?_⟩) ?_ ?_
           rotate_left
           ·intro w'
            go_simp
            with_reducible rfl
           rotate_left
           ·simp only [Act.put, sI_, s0_, sS_, i64_w, i32_w]
            rfl
           refine pure_ (i := 8) (N := some 18) (v := ?_) (a' := ?_) #[y_, y_, y_, y_, y_, y_, y_, y_, y_, n_, n_, n_, n_, n_, n_, n_, n_, n_, n_, n_, n_, n_, n_, n_, n_, n_, n_, n_, n_, n_, n_, n_, n_] rfl rfl (any_of HT_.out (by kernel_rfl)) (fun _ _ _ h => h) (Or.inl ⟨by rfl, ?_⟩) ?_ ?_
           rotate_left
           ·intro w'
            go_simp
            with_reducible rfl
           rotate_left
           ·simp only [Act.put, sI_, s0_, sS_, i64_w, i32_w]
            rfl
           refine pure_ (i := 9) (N := some 19) (v := ?_) (a' := ?_) #[y_, y_, y_, y_, y_, y_, y_, y_, y_, y_, n_, n_, n_, n_, n_, n_, n_, n_, n_, n_, n_, n_, n_, n_, n_, n_, n_, n_, n_, n_, n_, n_, n_] rfl rfl (any_of HT_.out (by kernel_rfl)) (fun _ _ _ h => h) (Or.inl ⟨by rfl, ?_⟩) ?_ ?_
           rotate_left
           ·intro w'
            go_simp
            with_reducible rfl
           rotate_left
           ·simp only [Act.put, sI_, s0_, sS_, i64_w, i32_w]
            rfl
           refine pure_ (i := 10) (N := some 20) (v := ?_) (a' := ?_) #[y_, y_, y_, y_, y_, y_, y_, y_, y_, y_, y_, n_, n_, n_, n_, n_, n_, n_, n_, n_, n_, n_, n_, n_, n_, n_, n_, n_, n_, n_, n_, n_, n_] rfl rfl (any_of HT_.out (by kernel_rfl)) (fun _ _ _ h => h) (Or.inl ⟨by rfl, ?_⟩) ?_ ?_
           rotate_left
           ·intro w'
            go_simp
            with_reducible rfl
           rotate_left
           ·simp only [Act.put, sI_, s0_, sS_, i64_w, i32_w]
            rfl
           refine pure_ (i := 11) (N := some 21) (v := ?_) (a' := ?_) #[y_, y_, y_, y_, y_, y_, y_, y_, y_, y_, y_, y_, n_, n_, n_, n_, n_, n_, n_, n_, n_, n_, n_, n_, n_, n_, n_, n_, n_, n_, n_, n_, n_] rfl rfl (any_of HT_.out (by kernel_rfl)) (fun _ _ _ h => h) (Or.inl ⟨by rfl, ?_⟩) ?_ ?_
           rotate_left
           ·intro w'
            go_simp
            with_reducible rfl
           rotate_left
           ·simp only [Act.put, sI_, s0_, sS_, i64_w, i32_w]
            rfl
           refine pure_ (i := 12) (N := some 22) (v := ?_) (a' := ?_) #[y_, y_, y_, y_, y_, y_, y_, y_, y_, y_, y_, y_, y_, n_, n_, n_, n_, n_, n_, n_, n_, n_, n_, n_, n_, n_, n_, n_, n_, n_, n_, n_, n_] rfl rfl (any_of HT_.out (by kernel_rfl)) (fun _ _ _ h => h) (Or.inl ⟨by rfl, ?_⟩) ?_ ?_
           rotate_left
           ·intro w'
            go_simp
            with_reducible rfl
           rotate_left
           ·simp only [Act.put, sI_, s0_, sS_, i64_w, i32_w]
            rfl
           refine pure_ (i := 13) (N := some 23) (v := ?_) (a' := ?_) #[y_, y_, y_, y_, y_, y_, y_, y_, y_, y_, y_, y_, y_, y_, n_, n_, n_, n_, n_, n_, n_, n_, n_, n_, n_, n_, n_, n_, n_, n_, n_, n_, n_] rfl rfl (any_of HT_.out (by kernel_rfl)) (fun _ _ _ h => h) (Or.inl ⟨by rfl, ?_⟩) ?_ ?_
           rotate_left
           ·intro w'
            go_simp
            with_reducible rfl
           rotate_left
           ·simp only [Act.put, sI_, s0_, sS_, i64_w, i32_w]
            rfl
           refine pure_ (i := 15) (N := some 25) (v := ?_) (a' := ?_) #[y_, y_, y_, y_, y_, y_, y_, y_, y_, y_, y_, y_, y_, y_, n_, y_, n_, n_, n_, n_, n_, n_, n_, n_, n_, n_, n_, n_, n_, n_, n_, n_, n_] rfl rfl (any_of HT_.out (by kernel_rfl)) (fun _ _ _ h => h) (Or.inl ⟨by rfl, ?_⟩) ?_ ?_
           rotate_left
           ·intro w'
            go_simp
            with_reducible rfl
           rotate_left
           ·simp only [Act.put, sI_, s0_, sS_, i64_w, i32_w]
            rfl
           refine pure_ (i := 16) (N := some 26) (v := ?_) (a' := ?_) #[y_, y_, y_, y_, y_, y_, y_, y_, y_, y_, y_, y_, y_, y_, n_, y_, y_, n_, n_, n_, n_, n_, n_, n_, n_, n_, n_, n_, n_, n_, n_, n_, n_] rfl rfl (any_of HT_.out (by kernel_rfl)) (fun _ _ _ h => h) (Or.inl ⟨by rfl, ?_⟩) ?_ ?_
           rotate_left
           ·intro w'
            go_simp
            with_reducible rfl
           rotate_left
           ·simp only [Act.put, sI_, s0_, sS_, i64_w, i32_w]
            rfl
           refine pure_ (i := 17) (N := some 27) (v := ?_) (a' := ?_) #[y_, y_, y_, y_, y_, y_, y_, y_, y_, y_, y_, y_, y_, y_, n_, y_, y_, y_, n_, n_, n_, n_, n_, n_, n_, n_, n_, n_, n_, n_, n_, n_, n_] rfl rfl (any_of HT_.out (by kernel_rfl)) (fun _ _ _ h => h) (Or.inl ⟨by rfl, ?_⟩) ?_ ?_
           rotate_left
           ·intro w'
            go_simp
            with_reducible rfl
           rotate_left
           ·simp only [Act.put, sI_, s0_, sS_, i64_w, i32_w]
            rfl
           refine pure_ (i := 18) (N := some 28) (v := ?_) (a' := ?_) #[y_, y_, y_, y_, y_, y_, y_, y_, y_, y_, y_, y_, y_, y_, n_, y_, y_, y_, y_, n_, n_, n_, n_, n_, n_, n_, n_, n_, n_, n_, n_, n_, n_] rfl rfl (any_of HT_.out (by kernel_rfl)) (fun _ _ _ h => h) (Or.inl ⟨by rfl, ?_⟩) ?_ ?_
           rotate_left
           ·intro w'
            go_simp
            with_reducible rfl
           rotate_left
           ·simp only [Act.put, sI_, s0_, sS_, i64_w, i32_w]
            rfl
           refine pure_ (i := 19) (N := some 29) (v := ?_) (a' := ?_) #[y_, y_, y_, y_, y_, y_, y_, y_, y_, y_, y_, y_, y_, y_, n_, y_, y_, y_, y_, y_, n_, n_, n_, n_, n_, n_, n_, n_, n_, n_, n_, n_, n_] rfl rfl (any_of HT_.out (by kernel_rfl)) (fun _ _ _ h => h) (Or.inl ⟨by rfl, ?_⟩) ?_ ?_
           rotate_left
           ·intro w'
            go_simp
            with_reducible rfl
           rotate_left
           ·simp only [Act.put, sI_, s0_, sS_, i64_w, i32_w]
            rfl
           refine take_ (i := 14) (N := some 24) (v := ?_) (a' := ?_) #[y_, y_, y_, y_, y_, y_, y_, y_, y_, y_, y_, y_, y_, y_, y_, y_, y_, y_, y_, y_, n_, n_, n_, n_, n_, n_, n_, n_, n_, n_, n_, n_, n_] rfl rfl (take_ofW HT_.out HW_.out (by kernel_rfl)) (fun _ _ _ h => h) (Or.inl ⟨by rfl, ?_⟩) hHeld ?_ ?_
           rotate_left
           ·rintro w' ⟨s0, s1, s2, s3, s4, s5, s6, s7, s8, s9, s10, s11⟩
            go_simp
            with_reducible rfl
           rotate_left
           ·simp only [Act.put, sI_, s0_, sS_, i64_w, i32_w]
            rfl
           refine take_ (i := 20) (N := some 30) (v := ?_) (a' := ?_) #[y_, y_, y_, y_, y_, y_, y_, y_, y_, y_, y_, y_, y_, y_, y_, y_, y_, y_, y_, y_, y_, n_, n_, n_, n_, n_, n_, n_, n_, n_, n_, n_, n_] rfl rfl (take_ofW HT_.out HW_.out (by kernel_rfl)) (fun _ _ _ h => h) (Or.inl ⟨by rfl, ?_⟩) hHeld ?_ ?_
           rotate_left
           ·rintro w' ⟨s0, s1, s2, s3, s4, s5, s6, s7, s8, s9, s10, s11⟩
            go_simp
            with_reducible rfl
           rotate_left
           ·simp only [Act.put, sI_, s0_, sS_, i64_w, i32_w]
            rfl
           refine pure_ (i := 21) (N := some 31) (v := ?_) (a' := ?_) #[y_, y_, y_, y_, y_, y_, y_, y_, y_, y_, y_, y_, y_, y_, y_, y_, y_, y_, y_, y_, y_, y_, n_, n_, n_, n_, n_, n_, n_, n_, n_, n_, n_] rfl rfl (any_of HT_.out (by kernel_rfl)) (fun _ _ _ h => h) (Or.inl ⟨by rfl, ?_⟩) ?_ ?_
           rotate_left
           ·intro w'
            go_simp
            with_reducible rfl
           rotate_left
           ·simp only [Act.put, sI_, s0_, sS_, i64_w, i32_w]
            rfl
           refine pure_ (i := 22) (N := some 32) (v := ?_) (a' := ?_) #[y_, y_, y_, y_, y_, y_, y_, y_, y_, y_, y_, y_, y_, y_, y_, y_, y_, y_, y_, y_, y_, y_, y_, n_, n_, n_, n_, n_, n_, n_, n_, n_, n_] rfl rfl (any_of HT_.out (by kernel_rfl)) (fun _ _ _ h => h) (Or.inl ⟨by rfl, ?_⟩) ?_ ?_
           rotate_left
           ·intro w'
            go_simp
            with_reducible rfl
           rotate_left
           ·simp only [Act.put, sI_, s0_, sS_, i64_w, i32_w]
            rfl
           refine pure_ (i := 23) (N := some 33) (v := ?_) (a' := ?_) #[y_, y_, y_, y_, y_, y_, y_, y_, y_, y_, y_, y_, y_, y_, y_, y_, y_, y_, y_, y_, y_, y_, y_, y_, n_, n_, n_, n_, n_, n_, n_, n_, n_] rfl rfl (any_of HT_.out (by kernel_rfl)) (fun _ _ _ h => h) (Or.inl ⟨by rfl, ?_⟩) ?_ ?_
           rotate_left
           ·intro w'
            go_simp
            with_reducible rfl
           rotate_left
           ·simp only [Act.put, sI_, s0_, sS_, i64_w, i32_w]
            rfl
           refine pure_ (i := 24) (N := some 34) (v := ?_) (a' := ?_) #[y_, y_, y_, y_, y_, y_, y_, y_, y_, y_, y_, y_, y_, y_, y_, y_, y_, y_, y_, y_, y_, y_, y_, y_, y_, n_, n_, n_, n_, n_, n_, n_, n_] rfl rfl (any_of HT_.out (by kernel_rfl)) (fun _ _ _ h => h) (Or.inl ⟨by rfl, ?_⟩) ?_ ?_
           rotate_left
           ·intro w'
            go_simp
            with_reducible rfl
           rotate_left
           ·simp only [Act.put, sI_, s0_, sS_, i64_w, i32_w]
            rfl
           refine pure_ (i := 25) (N := some 35) (v := ?_) (a' := ?_) #[y_, y_, y_, y_, y_, y_, y_, y_, y_, y_, y_, y_, y_, y_, y_, y_, y_, y_, y_, y_, y_, y_, y_, y_, y_, y_, n_, n_, n_, n_, n_, n_, n_] rfl rfl (any_of HT_.out (by kernel_rfl)) (fun _ _ _ h => h) (Or.inl ⟨by rfl, ?_⟩) ?_ ?_
           rotate_left
           ·intro w'
            go_simp
            with_reducible rfl
           rotate_left
           ·simp only [Act.put, sI_, s0_, sS_, i64_w, i32_w]
            rfl
           refine pure_ (i := 26) (N := some 36) (v := ?_) (a' := ?_) #[y_, y_, y_, y_, y_, y_, y_, y_, y_, y_, y_, y_, y_, y_, y_, y_, y_, y_, y_, y_, y_, y_, y_, y_, y_, y_, y_, n_, n_, n_, n_, n_, n_] rfl rfl (any_of HT_.out (by kernel_rfl)) (fun _ _ _ h => h) (Or.inl ⟨by rfl, ?_⟩) ?_ ?_
           rotate_left
           ·intro w'
            go_simp
            with_reducible rfl
           rotate_left
           ·simp only [Act.put, sI_, s0_, sS_, i64_w, i32_w]
            rfl
           refine pure_ (i := 27) (N := some 37) (v := ?_) (a' := ?_) #[y_, y_, y_, y_, y_, y_, y_, y_, y_, y_, y_, y_, y_, y_, y_, y_, y_, y_, y_, y_, y_, y_, y_, y_, y_, y_, y_, y_, n_, n_, n_, n_, n_] rfl rfl (any_of HT_.out (by kernel_rfl)) (fun _ _ _ h => h) (Or.inl ⟨by rfl, ?_⟩) ?_ ?_
           rotate_left
           ·intro w'
            go_simp
            with_reducible rfl
           rotate_left
           ·simp only [Act.put, sI_, s0_, sS_, i64_w, i32_w]
            rfl
           refine pure_ (i := 28) (N := some 38) (v := ?_) (a' := ?_) #[y_, y_, y_, y_, y_, y_, y_, y_, y_, y_, y_, y_, y_, y_, y_, y_, y_, y_, y_, y_, y_, y_, y_, y_, y_, y_, y_, y_, y_, n_, n_, n_, n_] rfl rfl (any_of HT_.out (by kernel_rfl)) (fun _ _ _ h => h) (Or.inl ⟨by rfl, ?_⟩) ?_ ?_
           rotate_left
           ·intro w'
            go_simp
            with_reducible rfl
           rotate_left
           ·simp only [Act.put, sI_, s0_, sS_, i64_w, i32_w]
            rfl
           refine take_ (i := 29) (N := some 39) (v := ?_) (a' := ?_) #[y_, y_, y_, y_, y_, y_, y_, y_, y_, y_, y_, y_, y_, y_, y_, y_, y_, y_, y_, y_, y_, y_, y_, y_, y_, y_, y_, y_, y_, y_, n_, n_, n_] rfl rfl (take_ofW HT_.out HW_.out (by kernel_rfl)) (fun _ _ _ h => h) (Or.inl ⟨by rfl, ?_⟩) hHeld ?_ ?_
           rotate_left
           ·rintro w' ⟨s0, s1, s2, s3, s4, s5, s6, s7, s8, s9, s10, s11⟩
            go_simp
            with_reducible rfl
           rotate_left
           ·simp only [Act.put, sI_, s0_, sS_, i64_w, i32_w]
            rfl
           refine one_ (i := 30) (N := some 40) #[y_, y_, y_, y_, y_, y_, y_, y_, y_, y_, y_, y_, y_, y_, y_, y_, y_, y_, y_, y_, y_, y_, y_, y_, y_, y_, y_, y_, y_, y_, y_, n_, n_] rfl rfl (one_of HT_.out (by kernel_rfl)) (by decide) (fun K hK => ?_)
           refine goes_ Try.func31 (by kernel_rfl) rfl #[.int .i64 ((rd_T44 l0 x3_1).f2)] (by rfl) rfl rfl (by (try simp only [List.map_toArray, List.map_cons, List.map_nil]); first | done | rfl | (simp only [List.length_drop, List.length_take]; rfl)) ?_
           with_reducible refine (cohousingref28_Volume.calls ((rd_T44 l0 x3_1).f2) t186 _ A13.out).mono ?_
           rintro e w' ⟨rfl, ⟨nd, rfl⟩⟩
           refine ⟨_, rfl, ?_⟩
           refine hK.out _ _ ⟨((HB.out.cell (World.block_lt_of_cell? w _ hw182_0)).trans hw182_0), ((HB.out.cell (World.block_lt_of_cell? w _ hw182_1)).trans hw182_1), ((HB.out.cell (World.block_lt_of_cell? w _ hw182_2)).trans hw182_2), ((HB.out.cell (World.block_lt_of_cell? w _ hw183_0)).trans hw183_0), ((HB.out.cell (World.block_lt_of_cell? w _ hw183_1)).trans hw183_1), ((HB.out.cell (World.block_lt_of_cell? w _ hw183_2)).trans hw183_2), ((HB.out.cell (World.block_lt_of_cell? w _ hw184_0)).trans hw184_0), ((HB.out.cell (World.block_lt_of_cell? w _ hw184_1)).trans hw184_1), ((HB.out.cell (World.block_lt_of_cell? w _ hw184_2)).trans hw184_2), ((HB.out.cell (World.block_lt_of_cell? w _ hw185_0)).trans hw185_0), ((HB.out.cell (World.block_lt_of_cell? w _ hw185_1)).trans hw185_1), ((HB.out.cell (World.block_lt_of_cell? w _ hw185_2)).trans hw185_2)⟩ (fun hHeld => ?_)
           clear hK K
           refine norm_ (a' := ?_) ?_ ?_
           rotate_left
           ·show Act.put _ (some 40) _ = _
            simp only [Act.put, sI_, s0_, sS_, i64_w, i32_w]
            rfl
           refine pure_ (i := 31) (N := some 41) (v := ?_) (a' := ?_) #[y_, y_, y_, y_, y_, y_, y_, y_, y_, y_, y_, y_, y_, y_, y_, y_, y_, y_, y_, y_, y_, y_, y_, y_, y_, y_, y_, y_, y_, y_, y_, y_, n_] rfl rfl (any_of HT_.out (by kernel_rfl)) (fun _ _ _ h => h) (Or.inl ⟨by rfl, ?_⟩) ?_ ?_
           rotate_left
           ·intro w'
            go_simp
            with_reducible rfl
           rotate_left
           ·simp only [Act.put, sI_, s0_, sS_, i64_w, i32_w]
            rfl
           refine pure_ (i := 32) (N := some 42) (v := ?_) (a' := ?_) #[y_, y_, y_, y_, y_, y_, y_, y_, y_, y_, y_, y_, y_, y_, y_, y_, y_, y_, y_, y_, y_, y_, y_, y_, y_, y_, y_, y_, y_, y_, y_, y_, y_] rfl rfl (any_of HT_.out (by kernel_rfl)) (fun _ _ _ h => h) (Or.inl ⟨by rfl, ?_⟩) ?_ ?_
           rotate_left
           ·intro w'
            go_simp
            with_reducible rfl
           rotate_left
           ·simp only [Act.put, sI_, s0_, sS_, i64_w, i32_w]
            rfl
           refine done_ (done_of HT_.out (by kernel_rfl)) ?_
           try go_wp2
           go_meet
           case rel => exact ⟨_, (!t186), (by first | rfl | (simp; done) | (simp [*]; done)), H', ⟨by have := HK1.out; first | omega | exact Nat.le_refl _⟩, ⟨by repeat (first | (with_reducible first | exact HB.out | apply below_alloc | apply pw_below_drewN | apply below_drew1) | exact HB.out)⟩⟩
         ·rw [if_neg c10] at H
          exact absurd H (by simp)
        ·rw [if_neg c9] at H
         exact absurd H (by simp)
       ·rw [if_neg c7] at H
        have c7b0 : decide (0 < x3_1) = false := decide_eq_false c7
        clear c7
        replace H := Option.bind_eq_some_iff.mp H
        obtain ⟨t188, A150, H⟩ := H
        replace H : (cohousingref28_Valid.j1 k1 l0 x3_1 (!t188)) = some r := H
        have A15 := Aside0.mk A150
        clear A150
        have H' := Aside0.mk H
        clear H
        try go_wp2
        have n0_ := Aside0.mk (below_drew1 HB.out)
        clear HB
        have HB := n0_
        clear n0_
        have p182 : 0 ≤ (x3_1 : Int) := of_decide_eq_true (by first | (with_reducible assumption) | assumption)
        have q182 : x3_1 < (l0.length : Int) := of_decide_eq_true (by first | (with_reducible assumption) | assumption)
        obtain ⟨ad182, e182, hx182_0, hx182_1, hx182_2⟩ := at_T44 HR0.out x3_1 p182 q182
        have hw182_2 := hx182_2
        have hw182_1 := hx182_1
        have hw182_0 := hx182_0
        cases e182
        replace hx182_0 := (HB.out.cell (World.block_lt_of_cell? w _ hx182_0)).trans hx182_0
        replace hx182_1 := (HB.out.cell (World.block_lt_of_cell? w _ hx182_1)).trans hx182_1
        replace hx182_2 := (HB.out.cell (World.block_lt_of_cell? w _ hx182_2)).trans hx182_2
        replace p182 := eq_true p182
        replace q182 := eq_true q182
        have p187 : 0 ≤ (x3_1 : Int) := of_decide_eq_true (by first | (with_reducible assumption) | assumption)
        have q187 : x3_1 < (l0.length : Int) := of_decide_eq_true (by first | (with_reducible assumption) | assumption)
        obtain ⟨ad187, e187, hx187_0, hx187_1, hx187_2⟩ := at_T44 HR0.out x3_1 p187 q187
        have hw187_2 := hx187_2
        have hw187_1 := hx187_1
        have hw187_0 := hx187_0
        obtain rfl : ad182 = ad187 := (by injection e187)
        replace hx187_0 := (HB.out.cell (World.block_lt_of_cell? w _ hx187_0)).trans hx187_0
        replace hx187_1 := (HB.out.cell (World.block_lt_of_cell? w _ hx187_1)).trans hx187_1
        replace hx187_2 := (HB.out.cell (World.block_lt_of_cell? w _ hx187_2)).trans hx187_2
        replace p187 := eq_true p187
        replace q187 := eq_true q187
        refine start_ (n := 33) (S := fun w' => w'.cell? (ad182.add ((x3_1).toNat * 3)) = some (.int .i64 ((rd_T44 l0 x3_1).f0)) ∧ w'.cell? ⟨(ad182.add ((x3_1).toNat * 3)).block, (ad182.add ((x3_1).toNat * 3)).off + 1, none⟩ = some (.int .i64 ((rd_T44 l0 x3_1).f1)) ∧ w'.cell? ⟨(ad182.add ((x3_1).toNat * 3)).block, (ad182.add ((x3_1).toNat * 3)).off + 2, none⟩ = some (.int .i64 ((rd_T44 l0 x3_1).f2)) ∧ w'.cell? (ad182.add ((x3_1).toNat * 3)) = some (.int .i64 ((rd_T44 l0 x3_1).f0)) ∧ w'.cell? ⟨(ad182.add ((x3_1).toNat * 3)).block, (ad182.add ((x3_1).toNat * 3)).off + 1, none⟩ = some (.int .i64 ((rd_T44 l0 x3_1).f1)) ∧ w'.cell? ⟨(ad182.add ((x3_1).toNat * 3)).block, (ad182.add ((x3_1).toNat * 3)).off + 2, none⟩ = some (.int .i64 ((rd_T44 l0 x3_1).f2))) (ds := []) #[n_, n_, n_, n_, n_, n_, n_, n_, n_, n_, n_, n_, n_, n_, n_, n_, n_, n_, n_, n_, n_, n_, n_, n_, n_, n_, n_, n_, n_, n_, n_, n_, n_] (by kernel_rfl) rfl rfl ⟨((HB.out.cell (World.block_lt_of_cell? w _ hw182_0)).trans hw182_0), ((HB.out.cell (World.block_lt_of_cell? w _ hw182_1)).trans hw182_1), ((HB.out.cell (World.block_lt_of_cell? w _ hw182_2)).trans hw182_2), ((HB.out.cell (World.block_lt_of_cell? w _ hw187_0)).trans hw187_0), ((HB.out.cell (World.block_lt_of_cell? w _ hw187_1)).trans hw187_1), ((HB.out.cell (World.block_lt_of_cell? w _ hw187_2)).trans hw187_2)⟩ (fun hHeld => ?_); refine with_tabW cohousingref28_Valid.tab4 cohousingref28_Valid.bits4 (fun HT_ HW_ => ?_)
        generalize wr.drew = w16 at HB hx182_0 hx182_1 hx182_2 hx187_0 hx187_1 hx187_2 hHeld ⊢
        refine pure_ (i := 0) (N := some 10) (v := ?_) (a' := ?_) #[y_, n_, n_, n_, n_, n_, n_, n_, n_, n_, n_, n_, n_, n_, n_, n_, n_, n_, n_, n_, n_, n_, n_, n_, n_, n_, n_, n_, n_, n_, n_, n_, n_] rfl rfl (any_of HT_.out (by kernel_rfl)) (fun _ _ _ h => h) (Or.inl ⟨by rfl, ?_⟩) ?_ ?_
        rotate_left
        ·intro w'
         go_simp
         with_reducible rfl
        rotate_left
        ·simp only [Act.put, sI_, s0_, sS_, i64_w, i32_w]
         rfl
        refine pure_ (i := 1) (N := some 11) (v := ?_) (a' := ?_) #[y_, y_, n_, n_, n_, n_, n_, n_, n_, n_, n_, n_, n_, n_, n_, n_, n_, n_, n_, n_, n_, n_, n_, n_, n_, n_, n_, n_, n_, n_, n_, n_, n_] rfl rfl (any_of HT_.out (by kernel_rfl)) (fun _ _ _ h => h) (Or.inl ⟨by rfl, ?_⟩) ?_ ?_
        rotate_left
        ·intro w'
         go_simp
         with_reducible rfl
        rotate_left
        ·simp only [Act.put, sI_, s0_, sS_, i64_w, i32_w]
         rfl
        refine pure_ (i := 2) (N := some 12) (v := ?_) (a' := ?_) #[y_, y_, y_, n_, n_, n_, n_, n_, n_, n_, n_, n_, n_, n_, n_, n_, n_, n_, n_, n_, n_, n_, n_, n_, n_, n_, n_, n_, n_, n_, n_, n_, n_] rfl rfl (any_of HT_.out (by kernel_rfl)) (fun _ _ _ h => h) (Or.inl ⟨by rfl, ?_⟩) ?_ ?_
        rotate_left
        ·intro w'
         go_simp
         with_reducible rfl
        rotate_left
        ·simp only [Act.put, sI_, s0_, sS_, i64_w, i32_w]
         rfl
        refine pure_ (i := 3) (N := some 13) (v := ?_) (a' := ?_) #[y_, y_, y_, y_, n_, n_, n_, n_, n_, n_, n_, n_, n_, n_, n_, n_, n_, n_, n_, n_, n_, n_, n_, n_, n_, n_, n_, n_, n_, n_, n_, n_, n_] rfl rfl (any_of HT_.out (by kernel_rfl)) (fun _ _ _ h => h) (Or.inl ⟨by rfl, ?_⟩) ?_ ?_
        rotate_left
        ·intro w'
         go_simp
         with_reducible rfl
        rotate_left
        ·simp only [Act.put, sI_, s0_, sS_, i64_w, i32_w]
         rfl
        refine take_ (i := 4) (N := some 14) (v := ?_) (a' := ?_) #[y_, y_, y_, y_, y_, n_, n_, n_, n_, n_, n_, n_, n_, n_, n_, n_, n_, n_, n_, n_, n_, n_, n_, n_, n_, n_, n_, n_, n_, n_, n_, n_, n_] rfl rfl (take_ofW HT_.out HW_.out (by kernel_rfl)) (fun _ _ _ h => h) (Or.inl ⟨by rfl, ?_⟩) hHeld ?_ ?_
        rotate_left
        ·rintro w' ⟨s0, s1, s2, s3, s4, s5⟩
         go_simp
         with_reducible rfl
        rotate_left
        ·simp only [Act.put, sI_, s0_, sS_, i64_w, i32_w]
         rfl
        refine pure_ (i := 5) (N := some 15) (v := ?_) (a' := ?_) #[y_, y_, y_, y_, y_, y_, n_, n_, n_, n_, n_, n_, n_, n_, n_, n_, n_, n_, n_, n_, n_, n_, n_, n_, n_, n_, n_, n_, n_, n_, n_, n_, n_] rfl rfl (any_of HT_.out (by kernel_rfl)) (fun _ _ _ h => h) (Or.inl ⟨by rfl, ?_⟩) ?_ ?_
        rotate_left
        ·intro w'
         go_simp
         with_reducible rfl
        rotate_left
        ·simp only [Act.put, sI_, s0_, sS_, i64_w, i32_w]
         rfl
        refine pure_ (i := 6) (N := some 16) (v := ?_) (a' := ?_) #[y_, y_, y_, y_, y_, y_, y_, n_, n_, n_, n_, n_, n_, n_, n_, n_, n_, n_, n_, n_, n_, n_, n_, n_, n_, n_, n_, n_, n_, n_, n_, n_, n_] rfl rfl (any_of HT_.out (by kernel_rfl)) (fun _ _ _ h => h) (Or.inl ⟨by rfl, ?_⟩) ?_ ?_
        rotate_left
        ·intro w'
         go_simp
         with_reducible rfl
        rotate_left
        ·simp only [Act.put, sI_, s0_, sS_, i64_w, i32_w]
         rfl
        refine pure_ (i := 7) (N := some 17) (v := ?_) (a' := ?_) #[y_, y_, y_, y_, y_, y_, y_, y_, n_, n_, n_, n_, n_, n_, n_, n_, n_, n_, n_, n_, n_, n_, n_, n_, n_, n_, n_, n_, n_, n_, n_, n_, n_] rfl rfl (any_of HT_.out (by kernel_rfl)) (fun _ _ _ h => h) (Or.inl ⟨by rfl, ?_⟩) ?_ ?_
        rotate_left
        ·intro w'
         go_simp
         with_reducible rfl
        rotate_left
        ·simp only [Act.put, sI_, s0_, sS_, i64_w, i32_w]
         rfl
        refine pure_ (i := 8) (N := some 18) (v := ?_) (a' := ?_) #[y_, y_, y_, y_, y_, y_, y_, y_, y_, n_, n_, n_, n_, n_, n_, n_, n_, n_, n_, n_, n_, n_, n_, n_, n_, n_, n_, n_, n_, n_, n_, n_, n_] rfl rfl (any_of HT_.out (by kernel_rfl)) (fun _ _ _ h => h) (Or.inl ⟨by rfl, ?_⟩) ?_ ?_
        rotate_left
        ·intro w'
         go_simp
         with_reducible rfl
        rotate_left
        ·simp only [Act.put, sI_, s0_, sS_, i64_w, i32_w]
         rfl
        refine pure_ (i := 9) (N := some 19) (v := ?_) (a' := ?_) #[y_, y_, y_, y_, y_, y_, y_, y_, y_, y_, n_, n_, n_, n_, n_, n_, n_, n_, n_, n_, n_, n_, n_, n_, n_, n_, n_, n_, n_, n_, n_, n_, n_] rfl rfl (any_of HT_.out (by kernel_rfl)) (fun _ _ _ h => h) (Or.inl ⟨by rfl, ?_⟩) ?_ ?_
        rotate_left
        ·intro w'
         go_simp
         with_reducible rfl
        rotate_left
        ·simp only [Act.put, sI_, s0_, sS_, i64_w, i32_w]
         rfl
        refine pure_ (i := 10) (N := some 20) (v := undef) (a' := ?_) #[y_, y_, y_, y_, y_, y_, y_, y_, y_, y_, y_, n_, n_, n_, n_, n_, n_, n_, n_, n_, n_, n_, n_, n_, n_, n_, n_, n_, n_, n_, n_, n_, n_] rfl rfl (any_of HT_.out (by kernel_rfl)) (fun _ _ _ h => h) (Or.inr ⟨by rfl, rfl⟩) ?_ ?_
        rotate_left
        ·simp only [Act.put, sI_, s0_, sS_, i64_w, i32_w]
         rfl
        refine pure_ (i := 11) (N := some 21) (v := undef) (a' := ?_) #[y_, y_, y_, y_, y_, y_, y_, y_, y_, y_, y_, y_, n_, n_, n_, n_, n_, n_, n_, n_, n_, n_, n_, n_, n_, n_, n_, n_, n_, n_, n_, n_, n_] rfl rfl (any_of HT_.out (by kernel_rfl)) (fun _ _ _ h => h) (Or.inr ⟨by rfl, rfl⟩) ?_ ?_
        rotate_left
        ·simp only [Act.put, sI_, s0_, sS_, i64_w, i32_w]
         rfl
        refine pure_ (i := 12) (N := some 22) (v := undef) (a' := ?_) #[y_, y_, y_, y_, y_, y_, y_, y_, y_, y_, y_, y_, y_, n_, n_, n_, n_, n_, n_, n_, n_, n_, n_, n_, n_, n_, n_, n_, n_, n_, n_, n_, n_] rfl rfl (any_of HT_.out (by kernel_rfl)) (fun _ _ _ h => h) (Or.inr ⟨by rfl, rfl⟩) ?_ ?_
        rotate_left
        ·simp only [Act.put, sI_, s0_, sS_, i64_w, i32_w]
         rfl
        refine pure_ (i := 13) (N := some 23) (v := undef) (a' := ?_) #[y_, y_, y_, y_, y_, y_, y_, y_, y_, y_, y_, y_, y_, y_, n_, n_, n_, n_, n_, n_, n_, n_, n_, n_, n_, n_, n_, n_, n_, n_, n_, n_, n_] rfl rfl (any_of HT_.out (by kernel_rfl)) (fun _ _ _ h => h) (Or.inr ⟨by rfl, rfl⟩) ?_ ?_
        rotate_left
        ·simp only [Act.put, sI_, s0_, sS_, i64_w, i32_w]
         rfl
        refine pure_ (i := 14) (N := some 24) (v := undef) (a' := ?_) #[y_, y_, y_, y_, y_, y_, y_, y_, y_, y_, y_, y_, y_, y_, y_, n_, n_, n_, n_, n_, n_, n_, n_, n_, n_, n_, n_, n_, n_, n_, n_, n_, n_] rfl rfl (any_of HT_.out (by kernel_rfl)) (fun _ _ _ h => h) (Or.inr ⟨by rfl, rfl⟩) ?_ ?_
        rotate_left
        ·simp only [Act.put, sI_, s0_, sS_, i64_w, i32_w]
         rfl
        refine pure_ (i := 15) (N := some 25) (v := undef) (a' := ?_) #[y_, y_, y_, y_, y_, y_, y_, y_, y_, y_, y_, y_, y_, y_, y_, y_, n_, n_, n_, n_, n_, n_, n_, n_, n_, n_, n_, n_, n_, n_, n_, n_, n_] rfl rfl (any_of HT_.out (by kernel_rfl)) (fun _ _ _ h => h) (Or.inr ⟨by rfl, rfl⟩) ?_ ?_
        rotate_left
        ·simp only [Act.put, sI_, s0_, sS_, i64_w, i32_w]
         rfl
        refine pure_ (i := 16) (N := some 26) (v := undef) (a' := ?_) #[y_, y_, y_, y_, y_, y_, y_, y_, y_, y_, y_, y_, y_, y_, y_, y_, y_, n_, n_, n_, n_, n_, n_, n_, n_, n_, n_, n_, n_, n_, n_, n_, n_] rfl rfl (any_of HT_.out (by kernel_rfl)) (fun _ _ _ h => h) (Or.inr ⟨by rfl, rfl⟩) ?_ ?_
        rotate_left
        ·simp only [Act.put, sI_, s0_, sS_, i64_w, i32_w]
         rfl
        refine pure_ (i := 17) (N := some 27) (v := undef) (a' := ?_) #[y_, y_, y_, y_, y_, y_, y_, y_, y_, y_, y_, y_, y_, y_, y_, y_, y_, y_, n_, n_, n_, n_, n_, n_, n_, n_, n_, n_, n_, n_, n_, n_, n_] rfl rfl (any_of HT_.out (by kernel_rfl)) (fun _ _ _ h => h) (Or.inr ⟨by rfl, rfl⟩) ?_ ?_
        rotate_left
        ·simp only [Act.put, sI_, s0_, sS_, i64_w, i32_w]
         rfl
        refine pure_ (i := 18) (N := some 28) (v := undef) (a' := ?_) #[y_, y_, y_, y_, y_, y_, y_, y_, y_, y_, y_, y_, y_, y_, y_, y_, y_, y_, y_, n_, n_, n_, n_, n_, n_, n_, n_, n_, n_, n_, n_, n_, n_] rfl rfl (any_of HT_.out (by kernel_rfl)) (fun _ _ _ h => h) (Or.inr ⟨by rfl, rfl⟩) ?_ ?_
        rotate_left
        ·simp only [Act.put, sI_, s0_, sS_, i64_w, i32_w]
         rfl
        refine pure_ (i := 19) (N := some 29) (v := undef) (a' := ?_) #[y_, y_, y_, y_, y_, y_, y_, y_, y_, y_, y_, y_, y_, y_, y_, y_, y_, y_, y_, y_, n_, n_, n_, n_, n_, n_, n_, n_, n_, n_, n_, n_, n_] rfl rfl (any_of HT_.out (by kernel_rfl)) (fun _ _ _ h => h) (Or.inr ⟨by rfl, rfl⟩) ?_ ?_
        rotate_left
        ·simp only [Act.put, sI_, s0_, sS_, i64_w, i32_w]
         rfl
        refine pure_ (i := 20) (N := some 30) (v := undef) (a' := ?_) #[y_, y_, y_, y_, y_, y_, y_, y_, y_, y_, y_, y_, y_, y_, y_, y_, y_, y_, y_, y_, y_, n_, n_, n_, n_, n_, n_, n_, n_, n_, n_, n_, n_] rfl rfl (any_of HT_.out (by kernel_rfl)) (fun _ _ _ h => h) (Or.inr ⟨by rfl, rfl⟩) ?_ ?_
        rotate_left
        ·simp only [Act.put, sI_, s0_, sS_, i64_w, i32_w]
         rfl
        refine pure_ (i := 21) (N := some 31) (v := undef) (a' := ?_) #[y_, y_, y_, y_, y_, y_, y_, y_, y_, y_, y_, y_, y_, y_, y_, y_, y_, y_, y_, y_, y_, y_, n_, n_, n_, n_, n_, n_, n_, n_, n_, n_, n_] rfl rfl (any_of HT_.out (by kernel_rfl)) (fun _ _ _ h => h) (Or.inr ⟨by rfl, rfl⟩) ?_ ?_
        rotate_left
        ·simp only [Act.put, sI_, s0_, sS_, i64_w, i32_w]
         rfl
        refine pure_ (i := 22) (N := some 32) (v := ?_) (a' := ?_) #[y_, y_, y_, y_, y_, y_, y_, y_, y_, y_, y_, y_, y_, y_, y_, y_, y_, y_, y_, y_, y_, y_, y_, n_, n_, n_, n_, n_, n_, n_, n_, n_, n_] rfl rfl (any_of HT_.out (by kernel_rfl)) (fun _ _ _ h => h) (Or.inl ⟨by rfl, ?_⟩) ?_ ?_
        rotate_left
        ·intro w'
         go_simp
         with_reducible rfl
        rotate_left
        ·simp only [Act.put, sI_, s0_, sS_, i64_w, i32_w]
         rfl
        refine pure_ (i := 23) (N := some 33) (v := ?_) (a' := ?_) #[y_, y_, y_, y_, y_, y_, y_, y_, y_, y_, y_, y_, y_, y_, y_, y_, y_, y_, y_, y_, y_, y_, y_, y_, n_, n_, n_, n_, n_, n_, n_, n_, n_] rfl rfl (any_of HT_.out (by kernel_rfl)) (fun _ _ _ h => h) (Or.inl ⟨by rfl, ?_⟩) ?_ ?_
        rotate_left
        ·intro w'
         go_simp
         with_reducible rfl
        rotate_left
        ·simp only [Act.put, sI_, s0_, sS_, i64_w, i32_w]
         rfl
        refine pure_ (i := 24) (N := some 34) (v := ?_) (a' := ?_) #[y_, y_, y_, y_, y_, y_, y_, y_, y_, y_, y_, y_, y_, y_, y_, y_, y_, y_, y_, y_, y_, y_, y_, y_, y_, n_, n_, n_, n_, n_, n_, n_, n_] rfl rfl (any_of HT_.out (by kernel_rfl)) (fun _ _ _ h => h) (Or.inl ⟨by rfl, ?_⟩) ?_ ?_
        rotate_left
        ·intro w'
         go_simp
         with_reducible rfl
        rotate_left
        ·simp only [Act.put, sI_, s0_, sS_, i64_w, i32_w]
         rfl
        refine pure_ (i := 25) (N := some 35) (v := ?_) (a' := ?_) #[y_, y_, y_, y_, y_, y_, y_, y_, y_, y_, y_, y_, y_, y_, y_, y_, y_, y_, y_, y_, y_, y_, y_, y_, y_, y_, n_, n_, n_, n_, n_, n_, n_] rfl rfl (any_of HT_.out (by kernel_rfl)) (fun _ _ _ h => h) (Or.inl ⟨by rfl, ?_⟩) ?_ ?_
        rotate_left
        ·intro w'
         go_simp
         with_reducible rfl
        rotate_left
        ·simp only [Act.put, sI_, s0_, sS_, i64_w, i32_w]
         rfl
        refine pure_ (i := 26) (N := some 36) (v := ?_) (a' := ?_) #[y_, y_, y_, y_, y_, y_, y_, y_, y_, y_, y_, y_, y_, y_, y_, y_, y_, y_, y_, y_, y_, y_, y_, y_, y_, y_, y_, n_, n_, n_, n_, n_, n_] rfl rfl (any_of HT_.out (by kernel_rfl)) (fun _ _ _ h => h) (Or.inl ⟨by rfl, ?_⟩) ?_ ?_
        rotate_left
        ·intro w'
         go_simp
         with_reducible rfl
        rotate_left
        ·simp only [Act.put, sI_, s0_, sS_, i64_w, i32_w]
         rfl
        refine pure_ (i := 27) (N := some 37) (v := ?_) (a' := ?_) #[y_, y_, y_, y_, y_, y_, y_, y_, y_, y_, y_, y_, y_, y_, y_, y_, y_, y_, y_, y_, y_, y_, y_, y_, y_, y_, y_, y_, n_, n_, n_, n_, n_] rfl rfl (any_of HT_.out (by kernel_rfl)) (fun _ _ _ h => h) (Or.inl ⟨by rfl, ?_⟩) ?_ ?_
        rotate_left
        ·intro w'
         go_simp
         with_reducible rfl
        rotate_left
        ·simp only [Act.put, sI_, s0_, sS_, i64_w, i32_w]
         rfl
        refine pure_ (i := 28) (N := some 38) (v := ?_) (a' := ?_) #[y_, y_, y_, y_, y_, y_, y_, y_, y_, y_, y_, y_, y_, y_, y_, y_, y_, y_, y_, y_, y_, y_, y_, y_, y_, y_, y_, y_, y_, n_, n_, n_, n_] rfl rfl (any_of HT_.out (by kernel_rfl)) (fun _ _ _ h => h) (Or.inl ⟨by rfl, ?_⟩) ?_ ?_
        rotate_left
        ·intro w'
         go_simp
         with_reducible rfl
        rotate_left
        ·simp only [Act.put, sI_, s0_, sS_, i64_w, i32_w]
         rfl
        refine take_ (i := 29) (N := some 39) (v := ?_) (a' := ?_) #[y_, y_, y_, y_, y_, y_, y_, y_, y_, y_, y_, y_, y_, y_, y_, y_, y_, y_, y_, y_, y_, y_, y_, y_, y_, y_, y_, y_, y_, y_, n_, n_, n_] rfl rfl (take_ofW HT_.out HW_.out (by kernel_rfl)) (fun _ _ _ h => h) (Or.inl ⟨by rfl, ?_⟩) hHeld ?_ ?_
        rotate_left
        ·rintro w' ⟨s0, s1, s2, s3, s4, s5⟩
         go_simp
         with_reducible rfl
        rotate_left
        ·simp only [Act.put, sI_, s0_, sS_, i64_w, i32_w]
         rfl
        refine one_ (i := 30) (N := some 40) #[y_, y_, y_, y_, y_, y_, y_, y_, y_, y_, y_, y_, y_, y_, y_, y_, y_, y_, y_, y_, y_, y_, y_, y_, y_, y_, y_, y_, y_, y_, y_, n_, n_] rfl rfl (one_of HT_.out (by kernel_rfl)) (by decide) (fun K hK => ?_)
        refine goes_ Try.func31 (by kernel_rfl) rfl #[.int .i64 ((rd_T44 l0 x3_1).f2)] (by rfl) rfl rfl (by (try simp only [List.map_toArray, List.map_cons, List.map_nil]); first | done | rfl | (simp only [List.length_drop, List.length_take]; rfl)) ?_
        with_reducible refine (cohousingref28_Volume.calls ((rd_T44 l0 x3_1).f2) t188 _ A15.out).mono ?_
        rintro e w' ⟨rfl, ⟨nd, rfl⟩⟩
        refine ⟨_, rfl, ?_⟩
        refine hK.out _ _ ⟨((HB.out.cell (World.block_lt_of_cell? w _ hw182_0)).trans hw182_0), ((HB.out.cell (World.block_lt_of_cell? w _ hw182_1)).trans hw182_1), ((HB.out.cell (World.block_lt_of_cell? w _ hw182_2)).trans hw182_2), ((HB.out.cell (World.block_lt_of_cell? w _ hw187_0)).trans hw187_0), ((HB.out.cell (World.block_lt_of_cell? w _ hw187_1)).trans hw187_1), ((HB.out.cell (World.block_lt_of_cell? w _ hw187_2)).trans hw187_2)⟩ (fun hHeld => ?_)
        clear hK K
        refine norm_ (a' := ?_) ?_ ?_
        rotate_left
        ·show Act.put _ (some 40) _ = _
         simp only [Act.put, sI_, s0_, sS_, i64_w, i32_w]
         rfl
        refine pure_ (i := 31) (N := some 41) (v := ?_) (a' := ?_) #[y_, y_, y_, y_, y_, y_, y_, y_, y_, y_, y_, y_, y_, y_, y_, y_, y_, y_, y_, y_, y_, y_, y_, y_, y_, y_, y_, y_, y_, y_, y_, y_, n_] rfl rfl (any_of HT_.out (by kernel_rfl)) (fun _ _ _ h => h) (Or.inl ⟨by rfl, ?_⟩) ?_ ?_
        rotate_left
        ·intro w'
         go_simp
         with_reducible rfl
        rotate_left
        ·simp only [Act.put, sI_, s0_, sS_, i64_w, i32_w]
         rfl
        refine pure_ (i := 32) (N := some 42) (v := ?_) (a' := ?_) #[y_, y_, y_, y_, y_, y_, y_, y_, y_, y_, y_, y_, y_, y_, y_, y_, y_, y_, y_, y_, y_, y_, y_, y_, y_, y_, y_, y_, y_, y_, y_, y_, y_] rfl rfl (any_of HT_.out (by kernel_rfl)) (fun _ _ _ h => h) (Or.inl ⟨by rfl, ?_⟩) ?_ ?_
        rotate_left
        ·intro w'
         go_simp
         with_reducible rfl
        rotate_left
        ·simp only [Act.put, sI_, s0_, sS_, i64_w, i32_w]
         rfl
        refine done_ (done_of HT_.out (by kernel_rfl)) ?_
        try go_wp2
        go_meet
        case rel => exact ⟨_, (!t188), (by first | rfl | (simp; done) | (simp [*]; done)), H', ⟨by have := HK1.out; first | omega | exact Nat.le_refl _⟩, ⟨by repeat (first | (with_reducible first | exact HB.out | apply below_alloc | apply pw_below_drewN | apply below_drew1) | exact HB.out)⟩⟩
     ·rw [if_neg c4] at H
      exact absurd H (by simp)
    case rest =>
     clear HC3
     try clear c1
     try clear p1
     try clear q1
     try clear hx1
     try clear p2
     try clear c3
     try clear c4
     try clear c7
     try clear c7b0
     try clear c9
     try clear c10
     try clear hx182_0
     try clear hx182_1
     try clear hx182_2
     try clear hx183_0
     try clear hx183_1
     try clear hx183_2
     try clear hx184_0
     try clear hx184_1
     try clear hx184_2
     try clear hx185_0
     try clear hx185_1
     try clear hx185_2
     try clear hx187_0
     try clear hx187_1
     try clear hx187_2
     try clear p182
     try clear p183
     try clear p184
     try clear p185
     try clear p187
     try clear q182
     try clear q183
     try clear q184
     try clear q185
     try clear q187
     obtain ⟨kq, x42_2, rfl, HA, HJ2, HB⟩ := hcut
     cases kq with
     | zero => exact absurd HA.out (by simp [cohousingref28_Valid.j1])
     | succ kj2 =>
      have H := HA.out
      clear HA
      simp only [cohousingref28_Valid.j1] at H
      by_cases c17 : x42_2 = true
      ·subst c17
       have H1 : (some false) = some r := by rw [if_pos rfl] at H; exact H
       clear H
       have H := H1
       clear H1
       obtain rfl := Option.some.inj H
       go_wp2
       go_ret
       exact ⟨by first | rfl | (simp [errW_none, errW_some] <;> rfl) | (simp [*, errW_none, errW_some] <;> rfl), by repeat (first | (with_reducible first | exact HB.out | apply below_alloc | apply pw_below_drewN | apply below_drew1) | exact HB.out)⟩
      ·replace c17 := Bool.eq_false_iff.mpr c17
       subst c17
       have H1 : (if 0 ≤ x3_1 then (if x3_1 < (l0.length : Int) then (if ((rd_T44 l0 x3_1).f1) = 0 then (cohousingref28_Valid.l0 kj2 l0 (wrap64 (x3_1 + 1))) else (if x3_1 ≤ (l0.length : Int) then ((cohousingref28_At.f kj2 (l0.take (x3_1 : Int).toNat) ((rd_T44 l0 x3_1).f1)).bind fun t195 => (if t195 < 0 then (some false) else (cohousingref28_Valid.l0 kj2 l0 (wrap64 (x3_1 + 1))))) else (none))) else (none)) else (none)) = some r := by rw [if_neg (show ¬ (false = true) by decide)] at H; exact H
       clear H
       have H := H1
       clear H1
       by_cases c18 : 0 ≤ x3_1
       ·rw [if_pos c18] at H
        have c18b0 : decide (0 ≤ x3_1) = true := decide_eq_true c18
        clear c18
        by_cases c19 : x3_1 < (l0.length : Int)
        ·rw [if_pos c19] at H
         have c19b0 : decide (x3_1 < (l0.length : Int)) = true := decide_eq_true c19
         clear c19
         by_cases c20 : ((rd_T44 l0 x3_1).f1) = 0
         ·rw [if_pos c20] at H
          have c20b0 : (((rd_T44 l0 x3_1).f1) == 0) = true := beq_iff_eq.mpr c20
          have c20b1 : (((rd_T44 l0 x3_1).f1) != 0) = false := bne_eq_false_iff_eq.mpr c20
          clear c20
          have H' := Aside0.mk H
          clear H
          try go_wp2
          have n0_ := Aside0.mk (below_drew1 HB.out)
          clear HB
          have HB := n0_
          clear n0_
          have p189 : 0 ≤ (x3_1 : Int) := of_decide_eq_true (by first | (with_reducible assumption) | assumption)
          have q189 : x3_1 < (l0.length : Int) := of_decide_eq_true (by first | (with_reducible assumption) | assumption)
          obtain ⟨ad189, e189, hx189_0, hx189_1, hx189_2⟩ := at_T44 HR0.out x3_1 p189 q189
          have hw189_2 := hx189_2
          have hw189_1 := hx189_1
          have hw189_0 := hx189_0
          cases e189
          replace hx189_0 := (HB.out.cell (World.block_lt_of_cell? w _ hx189_0)).trans hx189_0
          replace hx189_1 := (HB.out.cell (World.block_lt_of_cell? w _ hx189_1)).trans hx189_1
          replace hx189_2 := (HB.out.cell (World.block_lt_of_cell? w _ hx189_2)).trans hx189_2
          replace p189 := eq_true p189
          replace q189 := eq_true q189
          refine start_ (n := 18) (S := fun w' => w'.cell? (ad189.add ((x3_1).toNat * 3)) = some (.int .i64 ((rd_T44 l0 x3_1).f0)) ∧ w'.cell? ⟨(ad189.add ((x3_1).toNat * 3)).block, (ad189.add ((x3_1).toNat * 3)).off + 1, none⟩ = some (.int .i64 ((rd_T44 l0 x3_1).f1)) ∧ w'.cell? ⟨(ad189.add ((x3_1).toNat * 3)).block, (ad189.add ((x3_1).toNat * 3)).off + 2, none⟩ = some (.int .i64 ((rd_T44 l0 x3_1).f2))) (ds := []) #[n_, n_, n_, n_, n_, n_, n_, n_, n_, n_, n_, n_, n_, n_, n_, n_, n_, n_] (by kernel_rfl) rfl rfl ⟨((HB.out.cell (World.block_lt_of_cell? w _ hw189_0)).trans hw189_0), ((HB.out.cell (World.block_lt_of_cell? w _ hw189_1)).trans hw189_1), ((HB.out.cell (World.block_lt_of_cell? w _ hw189_2)).trans hw189_2)⟩ (fun hHeld => ?_); refine with_tabW cohousingref28_Valid.tab6 cohousingref28_Valid.bits6 (fun HT_ HW_ => ?_)
          generalize wc.drew = w21 at HB hx189_0 hx189_1 hx189_2 hHeld ⊢
          refine pure_ (i := 0) (N := some 43) (v := ?_) (a' := ?_) #[y_, n_, n_, n_, n_, n_, n_, n_, n_, n_, n_, n_, n_, n_, n_, n_, n_, n_] rfl rfl (any_of HT_.out (by kernel_rfl)) (fun _ _ _ h => h) (Or.inl ⟨by rfl, ?_⟩) ?_ ?_
          rotate_left
          ·intro w'
           go_simp
           with_reducible rfl
          rotate_left
          ·simp only [Act.put, sI_, s0_, sS_, i64_w, i32_w]
           rfl
          refine pure_ (i := 1) (N := some 44) (v := ?_) (a' := ?_) #[y_, y_, n_, n_, n_, n_, n_, n_, n_, n_, n_, n_, n_, n_, n_, n_, n_, n_] rfl rfl (any_of HT_.out (by kernel_rfl)) (fun _ _ _ h => h) (Or.inl ⟨by rfl, ?_⟩) ?_ ?_
          rotate_left
          ·intro w'
           go_simp
           with_reducible rfl
          rotate_left
          ·simp only [Act.put, sI_, s0_, sS_, i64_w, i32_w]
           rfl
          refine pure_ (i := 2) (N := some 45) (v := ?_) (a' := ?_) #[y_, y_, y_, n_, n_, n_, n_, n_, n_, n_, n_, n_, n_, n_, n_, n_, n_, n_] rfl rfl (any_of HT_.out (by kernel_rfl)) (fun _ _ _ h => h) (Or.inl ⟨by rfl, ?_⟩) ?_ ?_
          rotate_left
          ·intro w'
           go_simp
           with_reducible rfl
          rotate_left
          ·simp only [Act.put, sI_, s0_, sS_, i64_w, i32_w]
           rfl
          refine pure_ (i := 3) (N := some 46) (v := ?_) (a' := ?_) #[y_, y_, y_, y_, n_, n_, n_, n_, n_, n_, n_, n_, n_, n_, n_, n_, n_, n_] rfl rfl (any_of HT_.out (by kernel_rfl)) (fun _ _ _ h => h) (Or.inl ⟨by rfl, ?_⟩) ?_ ?_
          rotate_left
          ·intro w'
           go_simp
           with_reducible rfl
          rotate_left
          ·simp only [Act.put, sI_, s0_, sS_, i64_w, i32_w]
           rfl
          refine take_ (i := 4) (N := some 47) (v := ?_) (a' := ?_) #[y_, y_, y_, y_, y_, n_, n_, n_, n_, n_, n_, n_, n_, n_, n_, n_, n_, n_] rfl rfl (take_ofW HT_.out HW_.out (by kernel_rfl)) (fun _ _ _ h => h) (Or.inl ⟨by rfl, ?_⟩) hHeld ?_ ?_
          rotate_left
          ·rintro w' ⟨s0, s1, s2⟩
           go_simp
           with_reducible rfl
          rotate_left
          ·simp only [Act.put, sI_, s0_, sS_, i64_w, i32_w]
           rfl
          refine pure_ (i := 5) (N := some 48) (v := ?_) (a' := ?_) #[y_, y_, y_, y_, y_, y_, n_, n_, n_, n_, n_, n_, n_, n_, n_, n_, n_, n_] rfl rfl (any_of HT_.out (by kernel_rfl)) (fun _ _ _ h => h) (Or.inl ⟨by rfl, ?_⟩) ?_ ?_
          rotate_left
          ·intro w'
           go_simp
           with_reducible rfl
          rotate_left
          ·simp only [Act.put, sI_, s0_, sS_, i64_w, i32_w]
           rfl
          refine pure_ (i := 6) (N := some 49) (v := ?_) (a' := ?_) #[y_, y_, y_, y_, y_, y_, y_, n_, n_, n_, n_, n_, n_, n_, n_, n_, n_, n_] rfl rfl (any_of HT_.out (by kernel_rfl)) (fun _ _ _ h => h) (Or.inl ⟨by rfl, ?_⟩) ?_ ?_
          rotate_left
          ·intro w'
           go_simp
           with_reducible rfl
          rotate_left
          ·simp only [Act.put, sI_, s0_, sS_, i64_w, i32_w]
           rfl
          refine pure_ (i := 7) (N := some 50) (v := undef) (a' := ?_) #[y_, y_, y_, y_, y_, y_, y_, y_, n_, n_, n_, n_, n_, n_, n_, n_, n_, n_] rfl rfl (any_of HT_.out (by kernel_rfl)) (fun _ _ _ h => h) (Or.inr ⟨by rfl, rfl⟩) ?_ ?_
          rotate_left
          ·simp only [Act.put, sI_, s0_, sS_, i64_w, i32_w]
           rfl
          refine pure_ (i := 8) (N := some 51) (v := undef) (a' := ?_) #[y_, y_, y_, y_, y_, y_, y_, y_, y_, n_, n_, n_, n_, n_, n_, n_, n_, n_] rfl rfl (any_of HT_.out (by kernel_rfl)) (fun _ _ _ h => h) (Or.inr ⟨by rfl, rfl⟩) ?_ ?_
          rotate_left
          ·simp only [Act.put, sI_, s0_, sS_, i64_w, i32_w]
           rfl
          refine pure_ (i := 9) (N := some 52) (v := undef) (a' := ?_) #[y_, y_, y_, y_, y_, y_, y_, y_, y_, y_, n_, n_, n_, n_, n_, n_, n_, n_] rfl rfl (any_of HT_.out (by kernel_rfl)) (fun _ _ _ h => h) (Or.inr ⟨by rfl, rfl⟩) ?_ ?_
          rotate_left
          ·simp only [Act.put, sI_, s0_, sS_, i64_w, i32_w]
           rfl
          refine pure_ (i := 10) (N := some 53) (v := undef) (a' := ?_) #[y_, y_, y_, y_, y_, y_, y_, y_, y_, y_, y_, n_, n_, n_, n_, n_, n_, n_] rfl rfl (any_of HT_.out (by kernel_rfl)) (fun _ _ _ h => h) (Or.inr ⟨by rfl, rfl⟩) ?_ ?_
          rotate_left
          ·simp only [Act.put, sI_, s0_, sS_, i64_w, i32_w]
           rfl
          refine pure_ (i := 11) (N := some 54) (v := undef) (a' := ?_) #[y_, y_, y_, y_, y_, y_, y_, y_, y_, y_, y_, y_, n_, n_, n_, n_, n_, n_] rfl rfl (any_of HT_.out (by kernel_rfl)) (fun _ _ _ h => h) (Or.inr ⟨by rfl, rfl⟩) ?_ ?_
          rotate_left
          ·simp only [Act.put, sI_, s0_, sS_, i64_w, i32_w]
           rfl
          refine pure_ (i := 12) (N := some 55) (v := undef) (a' := ?_) #[y_, y_, y_, y_, y_, y_, y_, y_, y_, y_, y_, y_, y_, n_, n_, n_, n_, n_] rfl rfl (any_of HT_.out (by kernel_rfl)) (fun _ _ _ h => h) (Or.inr ⟨by rfl, rfl⟩) ?_ ?_
          rotate_left
          ·simp only [Act.put, sI_, s0_, sS_, i64_w, i32_w]
           rfl
          refine pure_ (i := 13) (N := some 56) (v := undef) (a' := ?_) #[y_, y_, y_, y_, y_, y_, y_, y_, y_, y_, y_, y_, y_, y_, n_, n_, n_, n_] rfl rfl (any_of HT_.out (by kernel_rfl)) (fun _ _ _ h => h) (Or.inr ⟨by rfl, rfl⟩) ?_ ?_
          rotate_left
          ·simp only [Act.put, sI_, s0_, sS_, i64_w, i32_w]
           rfl
          refine pure_ (i := 14) (N := some 57) (v := undef) (a' := ?_) #[y_, y_, y_, y_, y_, y_, y_, y_, y_, y_, y_, y_, y_, y_, y_, n_, n_, n_] rfl rfl (any_of HT_.out (by kernel_rfl)) (fun _ _ _ h => h) (Or.inr ⟨by rfl, rfl⟩) ?_ ?_
          rotate_left
          ·simp only [Act.put, sI_, s0_, sS_, i64_w, i32_w]
           rfl
          refine pure_ (i := 15) (N := some 58) (v := undef) (a' := ?_) #[y_, y_, y_, y_, y_, y_, y_, y_, y_, y_, y_, y_, y_, y_, y_, y_, n_, n_] rfl rfl (any_of HT_.out (by kernel_rfl)) (fun _ _ _ h => h) (Or.inr ⟨by rfl, rfl⟩) ?_ ?_
          rotate_left
          ·simp only [Act.put, sI_, s0_, sS_, i64_w, i32_w]
           rfl
          refine pure_ (i := 16) (N := some 59) (v := undef) (a' := ?_) #[y_, y_, y_, y_, y_, y_, y_, y_, y_, y_, y_, y_, y_, y_, y_, y_, y_, n_] rfl rfl (any_of HT_.out (by kernel_rfl)) (fun _ _ _ h => h) (Or.inr ⟨by rfl, rfl⟩) ?_ ?_
          rotate_left
          ·simp only [Act.put, sI_, s0_, sS_, i64_w, i32_w]
           rfl
          refine pure_ (i := 17) (N := some 60) (v := ?_) (a' := ?_) #[y_, y_, y_, y_, y_, y_, y_, y_, y_, y_, y_, y_, y_, y_, y_, y_, y_, y_] rfl rfl (any_of HT_.out (by kernel_rfl)) (fun _ _ _ h => h) (Or.inl ⟨by rfl, ?_⟩) ?_ ?_
          rotate_left
          ·intro w'
           go_simp
           with_reducible rfl
          rotate_left
          ·simp only [Act.put, sI_, s0_, sS_, i64_w, i32_w]
           rfl
          refine done_ (done_of HT_.out (by kernel_rfl)) ?_
          try go_wp2
          go_roundg kj2
          case measure => have := HK1.out; have := HJ2.out; omega
          case rel => exact ⟨(wrap64 (x3_1 + 1)), (by first | rfl | (simp; done) | (simp [*]; done)), H', ⟨by have := HK1.out; have := HJ2.out; omega⟩, ⟨by repeat (first | (with_reducible first | exact HB.out | apply below_alloc | apply pw_below_drewN | apply below_drew1) | exact HB.out)⟩⟩
         ·rw [if_neg c20] at H
          have c20b0 : (((rd_T44 l0 x3_1).f1) == 0) = false := beq_eq_false_iff_ne.mpr c20
          have c20b1 : (((rd_T44 l0 x3_1).f1) != 0) = true := bne_iff_ne.mpr c20
          have c22b0 := eq_true (of_decide_eq_true (by first | (with_reducible assumption) | assumption) : 0 ≤ x3_1)
          by_cases c23 : x3_1 ≤ (l0.length : Int)
          ·rw [if_pos c23] at H
           have c23b0 := eq_true c23
           have c23b1 : decide (x3_1 ≤ (l0.length : Int)) = true := decide_eq_true c23
           clear c23
           obtain ⟨y190, hy190⟩ : ∃ y_ : List (S44), y_ = (l0.take (x3_1 : Int).toNat) := ⟨_, rfl⟩
           replace H : ((cohousingref28_At.f kj2 y190 ((rd_T44 l0 x3_1).f1)).bind fun t195 => (if t195 < 0 then (some false) else (cohousingref28_Valid.l0 kj2 l0 (wrap64 (x3_1 + 1))))) = some r := by first | (rw [hy190]; with_reducible exact H) | (have H2_ := (Option.bind_some _ _).symm.trans H; rw [hy190]; with_reducible exact H2_) | (have H2_ := (Option.bind_some _ _).symm.trans H; with_reducible exact H2_) | with_reducible exact H | (rw [hy190]; exact H) | exact H
           have Ny190 := Aside0.mk hy190
           clear hy190
           replace H := Option.bind_eq_some_iff.mp H
           obtain ⟨t195, A240, H⟩ := H
           replace H : (if t195 < 0 then (some false) else (cohousingref28_Valid.l0 kj2 l0 (wrap64 (x3_1 + 1)))) = some r := H
           have A24 := Aside0.mk A240
           clear A240
           by_cases c25 : t195 < 0
           ·rw [if_pos c25] at H
            have c25b0 : decide (t195 < 0) = true := decide_eq_true c25
            clear c25
            obtain rfl := Option.some.inj H
            try go_wp2
            have n0_ := Aside0.mk (below_drew1 HB.out)
            clear HB
            have HB := n0_
            clear n0_
            have p189 : 0 ≤ (x3_1 : Int) := of_decide_eq_true (by first | (with_reducible assumption) | assumption)
            have q189 : x3_1 < (l0.length : Int) := of_decide_eq_true (by first | (with_reducible assumption) | assumption)
            obtain ⟨ad189, e189, hx189_0, hx189_1, hx189_2⟩ := at_T44 HR0.out x3_1 p189 q189
            have hw189_2 := hx189_2
            have hw189_1 := hx189_1
            have hw189_0 := hx189_0
            cases e189
            replace hx189_0 := (HB.out.cell (World.block_lt_of_cell? w _ hx189_0)).trans hx189_0
            replace hx189_1 := (HB.out.cell (World.block_lt_of_cell? w _ hx189_1)).trans hx189_1
            replace hx189_2 := (HB.out.cell (World.block_lt_of_cell? w _ hx189_2)).trans hx189_2
            replace p189 := eq_true p189
            replace q189 := eq_true q189
            have q27 : (x3_1 : Int) ≤ ((l0.length : Int) : Int) := of_decide_eq_true (by first | (with_reducible assumption) | assumption)
            obtain ⟨i027, hi027, _, hsz27, _⟩ := info_parts info44
            have hroom27 : l0.length ≤ c0 := HC0.out
            have hC27 : Kd.C k44 _ (some ad189) l0.length l0 := HR0.out
            have hcut27 := cut_to (P := Try.prog) 22 44 .i64 Try.underlying22 hi027 (some ad189) l0.length c0 x3_1 (of_decide_eq_true (by first | (with_reducible assumption) | assumption)) q27 hroom27
            have hr27 := Kd.C_take (m := (x3_1 : Int).toNat) hC27 (by omega)
            have hy27 : y190.length = (x3_1 : Int).toNat := (by rw [Ny190.out, List.length_take]; omega)
            rw [← Ny190.out] at hr27
            rw [← hy27] at hcut27
            have HR193 := Aside0.mk hr27
            have HC193 := Aside0.mk (show y190.length ≤ c0 from by omega)
            clear hr27 hC27 hroom27 hi027 hsz27
            have KY27 := Aside0.mk hy27
            clear hy27
            replace q27 := eq_true q27
            have p194 : 0 ≤ (x3_1 : Int) := of_decide_eq_true (by first | (with_reducible assumption) | assumption)
            have q194 : x3_1 < (l0.length : Int) := of_decide_eq_true (by first | (with_reducible assumption) | assumption)
            obtain ⟨ad194, e194, hx194_0, hx194_1, hx194_2⟩ := at_T44 HR0.out x3_1 p194 q194
            have hw194_2 := hx194_2
            have hw194_1 := hx194_1
            have hw194_0 := hx194_0
            obtain rfl : ad189 = ad194 := (by injection e194)
            replace hx194_0 := (HB.out.cell (World.block_lt_of_cell? w _ hx194_0)).trans hx194_0
            replace hx194_1 := (HB.out.cell (World.block_lt_of_cell? w _ hx194_1)).trans hx194_1
            replace hx194_2 := (HB.out.cell (World.block_lt_of_cell? w _ hx194_2)).trans hx194_2
            replace p194 := eq_true p194
            replace q194 := eq_true q194
            refine start_ (n := 18) (S := fun w' => w'.cell? (ad189.add ((x3_1).toNat * 3)) = some (.int .i64 ((rd_T44 l0 x3_1).f0)) ∧ w'.cell? ⟨(ad189.add ((x3_1).toNat * 3)).block, (ad189.add ((x3_1).toNat * 3)).off + 1, none⟩ = some (.int .i64 ((rd_T44 l0 x3_1).f1)) ∧ w'.cell? ⟨(ad189.add ((x3_1).toNat * 3)).block, (ad189.add ((x3_1).toNat * 3)).off + 2, none⟩ = some (.int .i64 ((rd_T44 l0 x3_1).f2)) ∧ w'.cell? (ad189.add ((x3_1).toNat * 3)) = some (.int .i64 ((rd_T44 l0 x3_1).f0)) ∧ w'.cell? ⟨(ad189.add ((x3_1).toNat * 3)).block, (ad189.add ((x3_1).toNat * 3)).off + 1, none⟩ = some (.int .i64 ((rd_T44 l0 x3_1).f1)) ∧ w'.cell? ⟨(ad189.add ((x3_1).toNat * 3)).block, (ad189.add ((x3_1).toNat * 3)).off + 2, none⟩ = some (.int .i64 ((rd_T44 l0 x3_1).f2))) (ds := []) #[n_, n_, n_, n_, n_, n_, n_, n_, n_, n_, n_, n_, n_, n_, n_, n_, n_, n_] (by kernel_rfl) rfl rfl ⟨((HB.out.cell (World.block_lt_of_cell? w _ hw189_0)).trans hw189_0), ((HB.out.cell (World.block_lt_of_cell? w _ hw189_1)).trans hw189_1), ((HB.out.cell (World.block_lt_of_cell? w _ hw189_2)).trans hw189_2), ((HB.out.cell (World.block_lt_of_cell? w _ hw194_0)).trans hw194_0), ((HB.out.cell (World.block_lt_of_cell? w _ hw194_1)).trans hw194_1), ((HB.out.cell (World.block_lt_of_cell? w _ hw194_2)).trans hw194_2)⟩ (fun hHeld => ?_); refine with_tabW cohousingref28_Valid.tab6 cohousingref28_Valid.bits6 (fun HT_ HW_ => ?_)
            generalize wc.drew = w26 at HB HR193 hx189_0 hx189_1 hx189_2 hx194_0 hx194_1 hx194_2 hHeld ⊢
            refine pure_ (i := 0) (N := some 43) (v := ?_) (a' := ?_) #[y_, n_, n_, n_, n_, n_, n_, n_, n_, n_, n_, n_, n_, n_, n_, n_, n_, n_] rfl rfl (any_of HT_.out (by kernel_rfl)) (fun _ _ _ h => h) (Or.inl ⟨by rfl, ?_⟩) ?_ ?_
            rotate_left
            ·intro w'
             go_simp
             with_reducible rfl
            rotate_left
            ·simp only [Act.put, sI_, s0_, sS_, i64_w, i32_w]
             rfl
            refine pure_ (i := 1) (N := some 44) (v := ?_) (a' := ?_) #[y_, y_, n_, n_, n_, n_, n_, n_, n_, n_, n_, n_, n_, n_, n_, n_, n_, n_] rfl rfl (any_of HT_.out (by kernel_rfl)) (fun _ _ _ h => h) (Or.inl ⟨by rfl, ?_⟩) ?_ ?_
            rotate_left
            ·intro w'
             go_simp
             with_reducible rfl
            rotate_left
            ·simp only [Act.put, sI_, s0_, sS_, i64_w, i32_w]
             rfl
            refine pure_ (i := 2) (N := some 45) (v := ?_) (a' := ?_) #[y_, y_, y_, n_, n_, n_, n_, n_, n_, n_, n_, n_, n_, n_, n_, n_, n_, n_] rfl rfl (any_of HT_.out (by kernel_rfl)) (fun _ _ _ h => h) (Or.inl ⟨by rfl, ?_⟩) ?_ ?_
            rotate_left
            ·intro w'
             go_simp
             with_reducible rfl
            rotate_left
            ·simp only [Act.put, sI_, s0_, sS_, i64_w, i32_w]
             rfl
            refine pure_ (i := 3) (N := some 46) (v := ?_) (a' := ?_) #[y_, y_, y_, y_, n_, n_, n_, n_, n_, n_, n_, n_, n_, n_, n_, n_, n_, n_] rfl rfl (any_of HT_.out (by kernel_rfl)) (fun _ _ _ h => h) (Or.inl ⟨by rfl, ?_⟩) ?_ ?_
            rotate_left
            ·intro w'
             go_simp
             with_reducible rfl
            rotate_left
            ·simp only [Act.put, sI_, s0_, sS_, i64_w, i32_w]
             rfl
            refine take_ (i := 4) (N := some 47) (v := ?_) (a' := ?_) #[y_, y_, y_, y_, y_, n_, n_, n_, n_, n_, n_, n_, n_, n_, n_, n_, n_, n_] rfl rfl (take_ofW HT_.out HW_.out (by kernel_rfl)) (fun _ _ _ h => h) (Or.inl ⟨by rfl, ?_⟩) hHeld ?_ ?_
            rotate_left
            ·rintro w' ⟨s0, s1, s2, s3, s4, s5⟩
             go_simp
             with_reducible rfl
            rotate_left
            ·simp only [Act.put, sI_, s0_, sS_, i64_w, i32_w]
             rfl
            refine pure_ (i := 5) (N := some 48) (v := ?_) (a' := ?_) #[y_, y_, y_, y_, y_, y_, n_, n_, n_, n_, n_, n_, n_, n_, n_, n_, n_, n_] rfl rfl (any_of HT_.out (by kernel_rfl)) (fun _ _ _ h => h) (Or.inl ⟨by rfl, ?_⟩) ?_ ?_
            rotate_left
            ·intro w'
             go_simp
             with_reducible rfl
            rotate_left
            ·simp only [Act.put, sI_, s0_, sS_, i64_w, i32_w]
             rfl
            refine pure_ (i := 6) (N := some 49) (v := ?_) (a' := ?_) #[y_, y_, y_, y_, y_, y_, y_, n_, n_, n_, n_, n_, n_, n_, n_, n_, n_, n_] rfl rfl (any_of HT_.out (by kernel_rfl)) (fun _ _ _ h => h) (Or.inl ⟨by rfl, ?_⟩) ?_ ?_
            rotate_left
            ·intro w'
             go_simp
             with_reducible rfl
            rotate_left
            ·simp only [Act.put, sI_, s0_, sS_, i64_w, i32_w]
             rfl
            refine pure_ (i := 7) (N := some 50) (v := ?_) (a' := ?_) #[y_, y_, y_, y_, y_, y_, y_, y_, n_, n_, n_, n_, n_, n_, n_, n_, n_, n_] rfl rfl (any_of HT_.out (by kernel_rfl)) (fun _ _ _ h => h) (Or.inl ⟨by rfl, ?_⟩) ?_ ?_
            rotate_left
            ·intro w'
             go_simp
             with_reducible rfl
            rotate_left
            ·simp only [Act.put, sI_, s0_, sS_, i64_w, i32_w]
             rfl
            refine pure_ (i := 8) (N := some 51) (v := ?_) (a' := ?_) #[y_, y_, y_, y_, y_, y_, y_, y_, y_, n_, n_, n_, n_, n_, n_, n_, n_, n_] rfl rfl (any_of HT_.out (by kernel_rfl)) (fun _ _ _ h => h) (Or.inl ⟨by rfl, ?_⟩) ?_ ?_
            rotate_left
            ·intro w'
             go_simp
             with_reducible rfl
            rotate_left
            ·simp only [Act.put, sI_, s0_, sS_, i64_w, i32_w]
             rfl
            refine pure_ (i := 9) (N := some 52) (v := ?_) (a' := ?_) #[y_, y_, y_, y_, y_, y_, y_, y_, y_, y_, n_, n_, n_, n_, n_, n_, n_, n_] rfl rfl (any_of HT_.out (by kernel_rfl)) (fun _ _ _ h => h) (Or.inl ⟨by rfl, ?_⟩) ?_ ?_
            rotate_left
            ·intro w'
             go_simp
             with_reducible rfl
            rotate_left
            ·simp only [Act.put, sI_, s0_, sS_, i64_w, i32_w]
             rfl
            refine pure_ (i := 10) (N := some 53) (v := ?_) (a' := ?_) #[y_, y_, y_, y_, y_, y_, y_, y_, y_, y_, y_, n_, n_, n_, n_, n_, n_, n_] rfl rfl (any_of HT_.out (by kernel_rfl)) (fun _ _ _ h => h) (Or.inl ⟨by rfl, ?_⟩) ?_ ?_
            rotate_left
            ·intro w'
             go_simp
             with_reducible rfl
            rotate_left
            ·simp only [Act.put, sI_, s0_, sS_, i64_w, i32_w]
             rfl
            refine pure_ (i := 11) (N := some 54) (v := ?_) (a' := ?_) #[y_, y_, y_, y_, y_, y_, y_, y_, y_, y_, y_, y_, n_, n_, n_, n_, n_, n_] rfl rfl (any_of HT_.out (by kernel_rfl)) (fun _ _ _ h => h) (Or.inl ⟨by rfl, ?_⟩) ?_ ?_
            rotate_left
            ·intro w'
             go_simp
             with_reducible rfl
            rotate_left
            ·simp only [Act.put, sI_, s0_, sS_, i64_w, i32_w]
             rfl
            refine pure_ (i := 12) (N := some 55) (v := ?_) (a' := ?_) #[y_, y_, y_, y_, y_, y_, y_, y_, y_, y_, y_, y_, y_, n_, n_, n_, n_, n_] rfl rfl (any_of HT_.out (by kernel_rfl)) (fun _ _ _ h => h) (Or.inl ⟨by rfl, ?_⟩) ?_ ?_
            rotate_left
            ·intro w'
             go_simp
             with_reducible rfl
            rotate_left
            ·simp only [Act.put, sI_, s0_, sS_, i64_w, i32_w]
             rfl
            refine pure_ (i := 13) (N := some 56) (v := ?_) (a' := ?_) #[y_, y_, y_, y_, y_, y_, y_, y_, y_, y_, y_, y_, y_, y_, n_, n_, n_, n_] rfl rfl (any_of HT_.out (by kernel_rfl)) (fun _ _ _ h => h) (Or.inl ⟨by rfl, ?_⟩) ?_ ?_
            rotate_left
            ·intro w'
             go_simp
             with_reducible rfl
            rotate_left
            ·simp only [Act.put, sI_, s0_, sS_, i64_w, i32_w]
             rfl
            refine take_ (i := 14) (N := some 57) (v := ?_) (a' := ?_) #[y_, y_, y_, y_, y_, y_, y_, y_, y_, y_, y_, y_, y_, y_, y_, n_, n_, n_] rfl rfl (take_ofW HT_.out HW_.out (by kernel_rfl)) (fun _ _ _ h => h) (Or.inl ⟨by rfl, ?_⟩) hHeld ?_ ?_
            rotate_left
            ·rintro w' ⟨s0, s1, s2, s3, s4, s5⟩
             go_simp
             with_reducible rfl
            rotate_left
            ·simp only [Act.put, sI_, s0_, sS_, i64_w, i32_w]
             rfl
            refine one_ (i := 15) (N := some 58) #[y_, y_, y_, y_, y_, y_, y_, y_, y_, y_, y_, y_, y_, y_, y_, y_, n_, n_] rfl rfl (one_of HT_.out (by kernel_rfl)) (by decide) (fun K hK => ?_)
            refine goes_ Try.func32 (by kernel_rfl) rfl #[.slice (some ad189) y190.length c0, .int .i64 ((rd_T44 l0 x3_1).f1)] (by rfl) rfl rfl (by (try simp only [List.map_toArray, List.map_cons, List.map_nil]); first | done | rfl | (simp only [List.length_drop, List.length_take]; rfl)) ?_
            with_reducible refine (cohousingref28_At.calls kj2 _ _ y190 ((rd_T44 l0 x3_1).f1) t195 _ ?side1 ?side2 A24.out).mono ?_
            (case side1 => repeat (first | exact (Kd.C_below HR193.out HB.out) | (with_reducible refine Kd.C_alloc ?_ _) | (with_reducible refine Kd.C_drewN ?_ _) | (with_reducible refine Kd.C_drew ?_)))
            (case side2 => exact HC193.out)
            rintro e w' ⟨rfl, ⟨nd, rfl⟩⟩
            refine ⟨_, rfl, ?_⟩
            refine hK.out _ _ ⟨((HB.out.cell (World.block_lt_of_cell? w _ hw189_0)).trans hw189_0), ((HB.out.cell (World.block_lt_of_cell? w _ hw189_1)).trans hw189_1), ((HB.out.cell (World.block_lt_of_cell? w _ hw189_2)).trans hw189_2), ((HB.out.cell (World.block_lt_of_cell? w _ hw194_0)).trans hw194_0), ((HB.out.cell (World.block_lt_of_cell? w _ hw194_1)).trans hw194_1), ((HB.out.cell (World.block_lt_of_cell? w _ hw194_2)).trans hw194_2)⟩ (fun hHeld => ?_)
            clear hK K
            refine norm_ (a' := ?_) ?_ ?_
            rotate_left
            ·show Act.put _ (some 58) _ = _
             simp only [Act.put, sI_, s0_, sS_, i64_w, i32_w]
             rfl
            refine pure_ (i := 16) (N := some 59) (v := ?_) (a' := ?_) #[y_, y_, y_, y_, y_, y_, y_, y_, y_, y_, y_, y_, y_, y_, y_, y_, y_, n_] rfl rfl (any_of HT_.out (by kernel_rfl)) (fun _ _ _ h => h) (Or.inl ⟨by rfl, ?_⟩) ?_ ?_
            rotate_left
            ·intro w'
             go_simp
             with_reducible rfl
            rotate_left
            ·simp only [Act.put, sI_, s0_, sS_, i64_w, i32_w]
             rfl
            refine pure_ (i := 17) (N := some 60) (v := ?_) (a' := ?_) #[y_, y_, y_, y_, y_, y_, y_, y_, y_, y_, y_, y_, y_, y_, y_, y_, y_, y_] rfl rfl (any_of HT_.out (by kernel_rfl)) (fun _ _ _ h => h) (Or.inl ⟨by rfl, ?_⟩) ?_ ?_
            rotate_left
            ·intro w'
             go_simp
             with_reducible rfl
            rotate_left
            ·simp only [Act.put, sI_, s0_, sS_, i64_w, i32_w]
             rfl
            refine done_ (done_of HT_.out (by kernel_rfl)) ?_
            try go_wp2
            go_ret
            exact ⟨by first | rfl | (simp [errW_none, errW_some] <;> rfl) | (simp [*, errW_none, errW_some] <;> rfl), by repeat (first | (with_reducible first | exact HB.out | apply below_alloc | apply pw_below_drewN | apply below_drew1) | exact HB.out)⟩
           ·rw [if_neg c25] at H
            have c25b0 : decide (t195 < 0) = false := decide_eq_false c25
            clear c25
            have H' := Aside0.mk H
            clear H
            try go_wp2
            have n0_ := Aside0.mk (below_drew1 HB.out)
            clear HB
            have HB := n0_
            clear n0_
            have p189 : 0 ≤ (x3_1 : Int) := of_decide_eq_true (by first | (with_reducible assumption) | assumption)
            have q189 : x3_1 < (l0.length : Int) := of_decide_eq_true (by first | (with_reducible assumption) | assumption)
            obtain ⟨ad189, e189, hx189_0, hx189_1, hx189_2⟩ := at_T44 HR0.out x3_1 p189 q189
            have hw189_2 := hx189_2
            have hw189_1 := hx189_1
            have hw189_0 := hx189_0
            cases e189
            replace hx189_0 := (HB.out.cell (World.block_lt_of_cell? w _ hx189_0)).trans hx189_0
            replace hx189_1 := (HB.out.cell (World.block_lt_of_cell? w _ hx189_1)).trans hx189_1
            replace hx189_2 := (HB.out.cell (World.block_lt_of_cell? w _ hx189_2)).trans hx189_2
            replace p189 := eq_true p189
            replace q189 := eq_true q189
            have q29 : (x3_1 : Int) ≤ ((l0.length : Int) : Int) := of_decide_eq_true (by first | (with_reducible assumption) | assumption)
            obtain ⟨i029, hi029, _, hsz29, _⟩ := info_parts info44
            have hroom29 : l0.length ≤ c0 := HC0.out
            have hC29 : Kd.C k44 _ (some ad189) l0.length l0 := HR0.out
            have hcut29 := cut_to (P := Try.prog) 22 44 .i64 Try.underlying22 hi029 (some ad189) l0.length c0 x3_1 (of_decide_eq_true (by first | (with_reducible assumption) | assumption)) q29 hroom29
            have hr29 := Kd.C_take (m := (x3_1 : Int).toNat) hC29 (by omega)
            have hy29 : y190.length = (x3_1 : Int).toNat := (by rw [Ny190.out, List.length_take]; omega)
            rw [← Ny190.out] at hr29
            rw [← hy29] at hcut29
            have HR193 := Aside0.mk hr29
            have HC193 := Aside0.mk (show y190.length ≤ c0 from by omega)
            clear hr29 hC29 hroom29 hi029 hsz29
            have KY29 := Aside0.mk hy29
            clear hy29
            replace q29 := eq_true q29
            have p194 : 0 ≤ (x3_1 : Int) := of_decide_eq_true (by first | (with_reducible assumption) | assumption)
            have q194 : x3_1 < (l0.length : Int) := of_decide_eq_true (by first | (with_reducible assumption) | assumption)
            obtain ⟨ad194, e194, hx194_0, hx194_1, hx194_2⟩ := at_T44 HR0.out x3_1 p194 q194
            have hw194_2 := hx194_2
            have hw194_1 := hx194_1
            have hw194_0 := hx194_0
            obtain rfl : ad189 = ad194 := (by injection e194)
            replace hx194_0 := (HB.out.cell (World.block_lt_of_cell? w _ hx194_0)).trans hx194_0
            replace hx194_1 := (HB.out.cell (World.block_lt_of_cell? w _ hx194_1)).trans hx194_1
            replace hx194_2 := (HB.out.cell (World.block_lt_of_cell? w _ hx194_2)).trans hx194_2
            replace p194 := eq_true p194
            replace q194 := eq_true q194
            refine start_ (n := 18) (S := fun w' => w'.cell? (ad189.add ((x3_1).toNat * 3)) = some (.int .i64 ((rd_T44 l0 x3_1).f0)) ∧ w'.cell? ⟨(ad189.add ((x3_1).toNat * 3)).block, (ad189.add ((x3_1).toNat * 3)).off + 1, none⟩ = some (.int .i64 ((rd_T44 l0 x3_1).f1)) ∧ w'.cell? ⟨(ad189.add ((x3_1).toNat * 3)).block, (ad189.add ((x3_1).toNat * 3)).off + 2, none⟩ = some (.int .i64 ((rd_T44 l0 x3_1).f2)) ∧ w'.cell? (ad189.add ((x3_1).toNat * 3)) = some (.int .i64 ((rd_T44 l0 x3_1).f0)) ∧ w'.cell? ⟨(ad189.add ((x3_1).toNat * 3)).block, (ad189.add ((x3_1).toNat * 3)).off + 1, none⟩ = some (.int .i64 ((rd_T44 l0 x3_1).f1)) ∧ w'.cell? ⟨(ad189.add ((x3_1).toNat * 3)).block, (ad189.add ((x3_1).toNat * 3)).off + 2, none⟩ = some (.int .i64 ((rd_T44 l0 x3_1).f2))) (ds := []) #[n_, n_, n_, n_, n_, n_, n_, n_, n_, n_, n_, n_, n_, n_, n_, n_, n_, n_] (by kernel_rfl) rfl rfl ⟨((HB.out.cell (World.block_lt_of_cell? w _ hw189_0)).trans hw189_0), ((HB.out.cell (World.block_lt_of_cell? w _ hw189_1)).trans hw189_1), ((HB.out.cell (World.block_lt_of_cell? w _ hw189_2)).trans hw189_2), ((HB.out.cell (World.block_lt_of_cell? w _ hw194_0)).trans hw194_0), ((HB.out.cell (World.block_lt_of_cell? w _ hw194_1)).trans hw194_1), ((HB.out.cell (World.block_lt_of_cell? w _ hw194_2)).trans hw194_2)⟩ (fun hHeld => ?_); refine with_tabW cohousingref28_Valid.tab6 cohousingref28_Valid.bits6 (fun HT_ HW_ => ?_)
            generalize wc.drew = w28 at HB HR193 hx189_0 hx189_1 hx189_2 hx194_0 hx194_1 hx194_2 hHeld ⊢
            refine pure_ (i := 0) (N := some 43) (v := ?_) (a' := ?_) #[y_, n_, n_, n_, n_, n_, n_, n_, n_, n_, n_, n_, n_, n_, n_, n_, n_, n_] rfl rfl (any_of HT_.out (by kernel_rfl)) (fun _ _ _ h => h) (Or.inl ⟨by rfl, ?_⟩) ?_ ?_
            rotate_left
            ·intro w'
             go_simp
             with_reducible rfl
            rotate_left
            ·simp only [Act.put, sI_, s0_, sS_, i64_w, i32_w]
             rfl
            refine pure_ (i := 1) (N := some 44) (v := ?_) (a' := ?_) #[y_, y_, n_, n_, n_, n_, n_, n_, n_, n_, n_, n_, n_, n_, n_, n_, n_, n_] rfl rfl (any_of HT_.out (by kernel_rfl)) (fun _ _ _ h => h) (Or.inl ⟨by rfl, ?_⟩) ?_ ?_
            rotate_left
            ·intro w'
             go_simp
             with_reducible rfl
            rotate_left
            ·simp only [Act.put, sI_, s0_, sS_, i64_w, i32_w]
             rfl
            refine pure_ (i := 2) (N := some 45) (v := ?_) (a' := ?_) #[y_, y_, y_, n_, n_, n_, n_, n_, n_, n_, n_, n_, n_, n_, n_, n_, n_, n_] rfl rfl (any_of HT_.out (by kernel_rfl)) (fun _ _ _ h => h) (Or.inl ⟨by rfl, ?_⟩) ?_ ?_
            rotate_left
            ·intro w'
             go_simp
             with_reducible rfl
            rotate_left
            ·simp only [Act.put, sI_, s0_, sS_, i64_w, i32_w]
             rfl
            refine pure_ (i := 3) (N := some 46) (v := ?_) (a' := ?_) #[y_, y_, y_, y_, n_, n_, n_, n_, n_, n_, n_, n_, n_, n_, n_, n_, n_, n_] rfl rfl (any_of HT_.out (by kernel_rfl)) (fun _ _ _ h => h) (Or.inl ⟨by rfl, ?_⟩) ?_ ?_
            rotate_left
            ·intro w'
             go_simp
             with_reducible rfl
            rotate_left
            ·simp only [Act.put, sI_, s0_, sS_, i64_w, i32_w]
             rfl
            refine take_ (i := 4) (N := some 47) (v := ?_) (a' := ?_) #[y_, y_, y_, y_, y_, n_, n_, n_, n_, n_, n_, n_, n_, n_, n_, n_, n_, n_] rfl rfl (take_ofW HT_.out HW_.out (by kernel_rfl)) (fun _ _ _ h => h) (Or.inl ⟨by rfl, ?_⟩) hHeld ?_ ?_
            rotate_left
            ·rintro w' ⟨s0, s1, s2, s3, s4, s5⟩
             go_simp
             with_reducible rfl
            rotate_left
            ·simp only [Act.put, sI_, s0_, sS_, i64_w, i32_w]
             rfl
            refine pure_ (i := 5) (N := some 48) (v := ?_) (a' := ?_) #[y_, y_, y_, y_, y_, y_, n_, n_, n_, n_, n_, n_, n_, n_, n_, n_, n_, n_] rfl rfl (any_of HT_.out (by kernel_rfl)) (fun _ _ _ h => h) (Or.inl ⟨by rfl, ?_⟩) ?_ ?_
            rotate_left
            ·intro w'
             go_simp
             with_reducible rfl
            rotate_left
            ·simp only [Act.put, sI_, s0_, sS_, i64_w, i32_w]
             rfl
            refine pure_ (i := 6) (N := some 49) (v := ?_) (a' := ?_) #[y_, y_, y_, y_, y_, y_, y_, n_, n_, n_, n_, n_, n_, n_, n_, n_, n_, n_] rfl rfl (any_of HT_.out (by kernel_rfl)) (fun _ _ _ h => h) (Or.inl ⟨by rfl, ?_⟩) ?_ ?_
            rotate_left
            ·intro w'
             go_simp
             with_reducible rfl
            rotate_left
            ·simp only [Act.put, sI_, s0_, sS_, i64_w, i32_w]
             rfl
            refine pure_ (i := 7) (N := some 50) (v := ?_) (a' := ?_) #[y_, y_, y_, y_, y_, y_, y_, y_, n_, n_, n_, n_, n_, n_, n_, n_, n_, n_] rfl rfl (any_of HT_.out (by kernel_rfl)) (fun _ _ _ h => h) (Or.inl ⟨by rfl, ?_⟩) ?_ ?_
            rotate_left
            ·intro w'
             go_simp
             with_reducible rfl
            rotate_left
            ·simp only [Act.put, sI_, s0_, sS_, i64_w, i32_w]
             rfl
            refine pure_ (i := 8) (N := some 51) (v := ?_) (a' := ?_) #[y_, y_, y_, y_, y_, y_, y_, y_, y_, n_, n_, n_, n_, n_, n_, n_, n_, n_] rfl rfl (any_of HT_.out (by kernel_rfl)) (fun _ _ _ h => h) (Or.inl ⟨by rfl, ?_⟩) ?_ ?_
            rotate_left
            ·intro w'
             go_simp
             with_reducible rfl
            rotate_left
            ·simp only [Act.put, sI_, s0_, sS_, i64_w, i32_w]
             rfl
            refine pure_ (i := 9) (N := some 52) (v := ?_) (a' := ?_) #[y_, y_, y_, y_, y_, y_, y_, y_, y_, y_, n_, n_, n_, n_, n_, n_, n_, n_] rfl rfl (any_of HT_.out (by kernel_rfl)) (fun _ _ _ h => h) (Or.inl ⟨by rfl, ?_⟩) ?_ ?_
            rotate_left
            ·intro w'
             go_simp
             with_reducible rfl
            rotate_left
            ·simp only [Act.put, sI_, s0_, sS_, i64_w, i32_w]
             rfl
            refine pure_ (i := 10) (N := some 53) (v := ?_) (a' := ?_) #[y_, y_, y_, y_, y_, y_, y_, y_, y_, y_, y_, n_, n_, n_, n_, n_, n_, n_] rfl rfl (any_of HT_.out (by kernel_rfl)) (fun _ _ _ h => h) (Or.inl ⟨by rfl, ?_⟩) ?_ ?_
            rotate_left
            ·intro w'
             go_simp
             with_reducible rfl
            rotate_left
            ·simp only [Act.put, sI_, s0_, sS_, i64_w, i32_w]
             rfl
            refine pure_ (i := 11) (N := some 54) (v := ?_) (a' := ?_) #[y_, y_, y_, y_, y_, y_, y_, y_, y_, y_, y_, y_, n_, n_, n_, n_, n_, n_] rfl rfl (any_of HT_.out (by kernel_rfl)) (fun _ _ _ h => h) (Or.inl ⟨by rfl, ?_⟩) ?_ ?_
            rotate_left
            ·intro w'
             go_simp
             with_reducible rfl
            rotate_left
            ·simp only [Act.put, sI_, s0_, sS_, i64_w, i32_w]
             rfl
            refine pure_ (i := 12) (N := some 55) (v := ?_) (a' := ?_) #[y_, y_, y_, y_, y_, y_, y_, y_, y_, y_, y_, y_, y_, n_, n_, n_, n_, n_] rfl rfl (any_of HT_.out (by kernel_rfl)) (fun _ _ _ h => h) (Or.inl ⟨by rfl, ?_⟩) ?_ ?_
            rotate_left
            ·intro w'
             go_simp
             with_reducible rfl
            rotate_left
            ·simp only [Act.put, sI_, s0_, sS_, i64_w, i32_w]
             rfl
            refine pure_ (i := 13) (N := some 56) (v := ?_) (a' := ?_) #[y_, y_, y_, y_, y_, y_, y_, y_, y_, y_, y_, y_, y_, y_, n_, n_, n_, n_] rfl rfl (any_of HT_.out (by kernel_rfl)) (fun _ _ _ h => h) (Or.inl ⟨by rfl, ?_⟩) ?_ ?_
            rotate_left
            ·intro w'
             go_simp
             with_reducible rfl
            rotate_left
            ·simp only [Act.put, sI_, s0_, sS_, i64_w, i32_w]
             rfl
            refine take_ (i := 14) (N := some 57) (v := ?_) (a' := ?_) #[y_, y_, y_, y_, y_, y_, y_, y_, y_, y_, y_, y_, y_, y_, y_, n_, n_, n_] rfl rfl (take_ofW HT_.out HW_.out (by kernel_rfl)) (fun _ _ _ h => h) (Or.inl ⟨by rfl, ?_⟩) hHeld ?_ ?_
            rotate_left
            ·rintro w' ⟨s0, s1, s2, s3, s4, s5⟩
             go_simp
             with_reducible rfl
            rotate_left
            ·simp only [Act.put, sI_, s0_, sS_, i64_w, i32_w]
             rfl
            refine one_ (i := 15) (N := some 58) #[y_, y_, y_, y_, y_, y_, y_, y_, y_, y_, y_, y_, y_, y_, y_, y_, n_, n_] rfl rfl (one_of HT_.out (by kernel_rfl)) (by decide) (fun K hK => ?_)
            refine goes_ Try.func32 (by kernel_rfl) rfl #[.slice (some ad189) y190.length c0, .int .i64 ((rd_T44 l0 x3_1).f1)] (by rfl) rfl rfl (by (try simp only [List.map_toArray, List.map_cons, List.map_nil]); first | done | rfl | (simp only [List.length_drop, List.length_take]; rfl)) ?_
            with_reducible refine (cohousingref28_At.calls kj2 _ _ y190 ((rd_T44 l0 x3_1).f1) t195 _ ?side1 ?side2 A24.out).mono ?_
            (case side1 => repeat (first | exact (Kd.C_below HR193.out HB.out) | (with_reducible refine Kd.C_alloc ?_ _) | (with_reducible refine Kd.C_drewN ?_ _) | (with_reducible refine Kd.C_drew ?_)))
            (case side2 => exact HC193.out)
            rintro e w' ⟨rfl, ⟨nd, rfl⟩⟩
            refine ⟨_, rfl, ?_⟩
            refine hK.out _ _ ⟨((HB.out.cell (World.block_lt_of_cell? w _ hw189_0)).trans hw189_0), ((HB.out.cell (World.block_lt_of_cell? w _ hw189_1)).trans hw189_1), ((HB.out.cell (World.block_lt_of_cell? w _ hw189_2)).trans hw189_2), ((HB.out.cell (World.block_lt_of_cell? w _ hw194_0)).trans hw194_0), ((HB.out.cell (World.block_lt_of_cell? w _ hw194_1)).trans hw194_1), ((HB.out.cell (World.block_lt_of_cell? w _ hw194_2)).trans hw194_2)⟩ (fun hHeld => ?_)
            clear hK K
            refine norm_ (a' := ?_) ?_ ?_
            rotate_left
            ·show Act.put _ (some 58) _ = _
             simp only [Act.put, sI_, s0_, sS_, i64_w, i32_w]
             rfl
            refine pure_ (i := 16) (N := some 59) (v := ?_) (a' := ?_) #[y_, y_, y_, y_, y_, y_, y_, y_, y_, y_, y_, y_, y_, y_, y_, y_, y_, n_] rfl rfl (any_of HT_.out (by kernel_rfl)) (fun _ _ _ h => h) (Or.inl ⟨by rfl, ?_⟩) ?_ ?_
            rotate_left
            ·intro w'
             go_simp
             with_reducible rfl
            rotate_left
            ·simp only [Act.put, sI_, s0_, sS_, i64_w, i32_w]
             rfl
            refine pure_ (i := 17) (N := some 60) (v := ?_) (a' := ?_) #[y_, y_, y_, y_, y_, y_, y_, y_, y_, y_, y_, y_, y_, y_, y_, y_, y_, y_] rfl rfl (any_of HT_.out (by kernel_rfl)) (fun _ _ _ h => h) (Or.inl ⟨by rfl, ?_⟩) ?_ ?_
            rotate_left
            ·intro w'
             go_simp
             with_reducible rfl
            rotate_left
            ·simp only [Act.put, sI_, s0_, sS_, i64_w, i32_w]
             rfl
            refine done_ (done_of HT_.out (by kernel_rfl)) ?_
            try go_wp2
            go_roundg kj2
            case measure => have := HK1.out; have := HJ2.out; omega
            case rel => exact ⟨(wrap64 (x3_1 + 1)), (by first | rfl | (simp; done) | (simp [*]; done)), H', ⟨by have := HK1.out; have := HJ2.out; omega⟩, ⟨by repeat (first | (with_reducible first | exact HB.out | apply below_alloc | apply pw_below_drewN | apply below_drew1) | exact HB.out)⟩⟩
          ·rw [if_neg c23] at H
           exact absurd H (by simp)
        ·rw [if_neg c19] at H
         exact absurd H (by simp)
       ·rw [if_neg c18] at H
        exact absurd H (by simp)
   ·rw [if_neg c2] at H
    have c2b0 : decide (x3_1 < (l0.length : Int)) = false := decide_eq_false c2
    clear c2
    obtain rfl := Option.some.inj H
    go_wp2
    go_ret
    exact ⟨by first | rfl | (simp [errW_none, errW_some] <;> rfl) | (simp [*, errW_none, errW_some] <;> rfl), by repeat (first | (with_reducible first | exact HB.out | apply below_alloc | apply pw_below_drewN | apply below_drew1) | exact HB.out)⟩
end Go.Proofs.Ytmojlpafpeeelaa.P
end
