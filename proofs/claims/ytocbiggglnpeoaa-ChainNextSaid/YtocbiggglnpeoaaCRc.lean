/- Part 3 of the base that the seat's proofs share: words, walks and plain laws. -/
import Derived.ArgAppend
import Derived.Below
import Derived.BigQuiet
import Derived.ChangeOld
import Derived.ChangeSlices
import Derived.Deep.AppendLies
import Derived.Deep.CutBlock
import Derived.Deep.DeepCutAuto
import Derived.Deep.Draws
import Derived.Deep.LoopGhost
import Derived.Deep.OwnRows
import Derived.Deep.QuietTactic
import Derived.Deep.RegionHeld3
import Derived.Deep.Slices
import Derived.KernelRfl
import Derived.Laws.BitsLemmas
import Derived.Laws.BytesArg
import Derived.Laws.IdiomCopy
import Derived.Laws.MakeOwn
import Derived.Laws.OwnMore
import Derived.Laws.Rows
import Derived.Laws.Slices
import Derived.Laws.StructEq
import Derived.Lib.AppendStr
import Derived.Lib.BufferOwn
import Derived.Lib.ConvBytes
import Derived.Lib.SliceRun
import Derived.LoopIn
import Derived.LoopNIn
import Derived.Maps.AppendAt
import Derived.Maps.Own
import Derived.OpenShut
import Derived.OrdersHeld
import Derived.OwnWalk
import Derived.OwnWalkIn
import Derived.ProofKit
import Derived.RangeFuncBound
import Derived.RangeFuncCalls
import Derived.RangeFuncLeaves
import Derived.RangeFuncNested
import Derived.RowKit
import Derived.RowKit3
import Derived.ShutString
import Derived.SizedLaws
import Derived.Tactics
import Derived.TacticsInMore
import Derived.Test.YtocbiggglnpeoaaProg
import Derived.WalkKit
import Derived.WideLaws
import Derived.Test.YtocbiggglnpeoaaCRb
set_option linter.unusedVariables false
set_option linter.unusedSimpArgs false
section
namespace Go.Proofs.Ytocbiggglnpeoaa.P
open Go.RowKit Go.Proofs.YtocbiggglnpeoaaW.PrintWords Go.Proofs.YtocbiggglnpeoaaW.PrintLast Go.Proofs.YtocbiggglnpeoaaW.PrintMore
attribute [local go_sem] max2_int min2_int max_two min_two max_three min_three max_four min_four
set_option linter.unusedVariables false
set_option linter.unusedSimpArgs false
set_option maxHeartbeats 8000000
set_option maxRecDepth 100000
section
def cohousinglaw26_head.j0 : Nat → List (S49) → List (S51) → List Int → List (S51) → List Int → List (S51) → List Int → Bool → List (S84) → List (S46) → Option (Bool)
 | 0, _, _, _, _, _, _, _, _, _, _ => none
 | k + 1, x2, x4, x5, x7, x8, x15, x16, x18, x156000, x156001 => if x18 = true then ((cohousingref26_SameMoves.f k x4 (([(⟨5, 1, 3⟩ : S51)] : List (S51)))).bind fun t183 => (if t183 = true then ((cohousingref23_SameInts.f k x5 (([0] : List Int))).bind fun t187 => (if t187 = true then (if 0 < (x2.length : Int) then ((cohousingref26_SameMoves.f k x7 ((rd_T49 x2 0).f1)).bind fun t189 => (if t189 = true then (if (x8.length : Int) = 0 then (if (x156001.length : Int) = 3 then (if 0 < (x156001.length : Int) then (if ((rd_T46 x156001 0).f1) = 3 then (if 1 < (x156001.length : Int) then (if ((rd_T46 x156001 1).f1) = 2 then (if (x15.length : Int) = 0 then ((cohousingref23_SameInts.f k x16 (([0] : List Int))).bind fun t195 => (some t195)) else (some false)) else (some false)) else (none)) else (some false)) else (none)) else (some false)) else (some false)) else (some false))) else (none)) else (some false))) else (some false))) else (some false)
def cohousinglaw26_head.f (k : Nat)  : Option (Bool) := (cohousinglaw26_example.f).bind fun bt121 => ((some (([(⟨1, 5, 1⟩ : S55), (⟨2, 6, 2⟩ : S55), (⟨1, 7, 2⟩ : S55), (⟨1, 6, 4⟩ : S55)] : List (S55)) : List (S55))).bind fun y131 => ((chain_Run.f bt121.1 bt121.2.1 bt121.2.2 3 y131).bind fun bt134 => ((chain_Run.f bt121.1 bt121.2.1 bt121.2.2 4 y131).bind fun bt141 => ((chain_Next.f bt121.1 bt121.2.1 bt134.1 ([] : List Int)).bind fun bt148 => ((chain_Next.f bt121.1 bt121.2.1 (([(⟨7, 0, 2⟩ : S51)] : List (S51))) ([] : List Int)).bind fun bt159 => ((chain_Run.f bt121.1 bt121.2.1 (([(⟨false, (([(⟨5, 1, 2⟩ : S51), (⟨6, 2, 1⟩ : S51)] : List (S51)))⟩ : S49)] : List (S49))) 3 y131).bind fun bt173 => (if bt134.2.2 = 0 then (if bt141.2.2 = 0 then (if bt148.2.2 = 0 then (if bt159.2.2 = 22 then (cohousinglaw26_head.j0 k bt121.2.2 bt134.1 bt134.2.1 bt141.1 bt141.2.1 bt173.1 bt173.2.1 (bt173.2.2 == 0) bt148.1 bt148.2.1) else (cohousinglaw26_head.j0 k bt121.2.2 bt134.1 bt134.2.1 bt141.1 bt141.2.1 bt173.1 bt173.2.1 false bt148.1 bt148.2.1)) else (cohousinglaw26_head.j0 k bt121.2.2 bt134.1 bt134.2.1 bt141.1 bt141.2.1 bt173.1 bt173.2.1 false bt148.1 bt148.2.1)) else (cohousinglaw26_head.j0 k bt121.2.2 bt134.1 bt134.2.1 bt141.1 bt141.2.1 bt173.1 bt173.2.1 false bt148.1 bt148.2.1)) else (cohousinglaw26_head.j0 k bt121.2.2 bt134.1 bt134.2.1 bt141.1 bt141.2.1 bt173.1 bt173.2.1 false bt148.1 bt148.2.1))))))))
theorem cohousinglaw26_head.mono_l : ∀ k, (∀ y0 y1 y2 y3 y4 y5 y6 y7 y8 y9, LeO (cohousinglaw26_head.j0 k y0 y1 y2 y3 y4 y5 y6 y7 y8 y9) (cohousinglaw26_head.j0 (k + 1) y0 y1 y2 y3 y4 y5 y6 y7 y8 y9))
 | 0 => fun _ _ _ _ _ _ _ _ _ _ r h => by simp [cohousinglaw26_head.j0] at h
 | k + 1 => by
  have ih0 := cohousinglaw26_head.mono_l k
  ·intro y0 y1 y2 y3 y4 y5 y6 y7 y8 y9
   unfold cohousinglaw26_head.j0
   repeat' first
   | (with_reducible exact ih0 _ _ _ _ _ _ _ _ _ _)
   | (with_reducible exact cohousingref23_SameInts.mono _ _ _)
   | (with_reducible exact cohousingref26_SameMoves.mono _ _ _)
   | (with_reducible exact LeO.refl _)
   | (with_reducible exact LeO.none _)
   | (with_reducible refine LeO.ite ?_ ?_)
   | (with_reducible refine LeO.bind ?_ (fun _ => ?_))
   | exact ih0 _ _ _ _ _ _ _ _ _ _
   | exact cohousingref23_SameInts.mono _ _ _
   | exact cohousingref26_SameMoves.mono _ _ _
   | exact LeO.none _
   | refine LeO.ite ?_ ?_
   | refine LeO.bind ?_ (fun _ => ?_)
theorem cohousinglaw26_head.mono : ∀ k, LeO (cohousinglaw26_head.f k ) (cohousinglaw26_head.f (k + 1) ) := by
 intro  k
 have ih0 := cohousinglaw26_head.mono_l k
 unfold cohousinglaw26_head.f
 repeat' first
   | (with_reducible exact ih0 _ _ _ _ _ _ _ _ _ _)
   | (with_reducible exact cohousingref23_SameInts.mono _ _ _)
   | (with_reducible exact cohousingref26_SameMoves.mono _ _ _)
   | (with_reducible exact LeO.refl _)
   | (with_reducible exact LeO.none _)
   | (with_reducible refine LeO.ite ?_ ?_)
   | (with_reducible refine LeO.bind ?_ (fun _ => ?_))
   | exact ih0 _ _ _ _ _ _ _ _ _ _
   | exact cohousingref23_SameInts.mono _ _ _
   | exact cohousingref26_SameMoves.mono _ _ _
   | exact LeO.none _
   | refine LeO.ite ?_ ?_
   | refine LeO.bind ?_ (fun _ => ?_)
theorem cohousinglaw26_head.yes : ∀ k r, cohousinglaw26_head.f k = some r → r = true := fun k r h => by
 have h1 : cohousinglaw26_head.f 60 = some true := by kernel_rfl
 have up : ∀ (d a : Nat) (x : Bool), cohousinglaw26_head.f a = some x → cohousinglaw26_head.f (a + d) = some x := fun d => by
  induction d with
  | zero => intro a x hx; exact hx
  | succ d ih => intro a x hx; exact cohousinglaw26_head.mono _ _ (ih a x hx)
 have h2 := up 60 k r h
 have h3 := up k 60 true h1
 rw [Nat.add_comm] at h3
 rw [h2] at h3
 exact Option.some.inj h3
theorem cohousinglaw26_head.calls (k : Nat)  (r : Bool) (w : World) (h : cohousinglaw26_head.f k  = some r) :
  Calls Try.prog 10 #[] w fun e w' => e = .returned (.bool r) ∧ Below w.heap.size w w' := by
 have hr_ := cohousinglaw26_head.yes k r h
 subst hr_
 have hu25 := Try.underlying25
 have hu55 := Try.underlying55
 have hu51 := Try.underlying51
 have hu49 := Try.underlying49
 have HB := Aside0.mk (Below.refl w.heap.size w)
 have H : ((cohousinglaw26_example.f).bind fun bt121 => ((some (([(⟨1, 5, 1⟩ : S55), (⟨2, 6, 2⟩ : S55), (⟨1, 7, 2⟩ : S55), (⟨1, 6, 4⟩ : S55)] : List (S55)) : List (S55))).bind fun y131 => ((chain_Run.f bt121.1 bt121.2.1 bt121.2.2 3 y131).bind fun bt134 => ((chain_Run.f bt121.1 bt121.2.1 bt121.2.2 4 y131).bind fun bt141 => ((chain_Next.f bt121.1 bt121.2.1 bt134.1 ([] : List Int)).bind fun bt148 => ((chain_Next.f bt121.1 bt121.2.1 (([(⟨7, 0, 2⟩ : S51)] : List (S51))) ([] : List Int)).bind fun bt159 => ((chain_Run.f bt121.1 bt121.2.1 (([(⟨false, (([(⟨5, 1, 2⟩ : S51), (⟨6, 2, 1⟩ : S51)] : List (S51)))⟩ : S49)] : List (S49))) 3 y131).bind fun bt173 => (if bt134.2.2 = 0 then (if bt141.2.2 = 0 then (if bt148.2.2 = 0 then (if bt159.2.2 = 22 then (cohousinglaw26_head.j0 k bt121.2.2 bt134.1 bt134.2.1 bt141.1 bt141.2.1 bt173.1 bt173.2.1 (bt173.2.2 == 0) bt148.1 bt148.2.1) else (cohousinglaw26_head.j0 k bt121.2.2 bt134.1 bt134.2.1 bt141.1 bt141.2.1 bt173.1 bt173.2.1 false bt148.1 bt148.2.1)) else (cohousinglaw26_head.j0 k bt121.2.2 bt134.1 bt134.2.1 bt141.1 bt141.2.1 bt173.1 bt173.2.1 false bt148.1 bt148.2.1)) else (cohousinglaw26_head.j0 k bt121.2.2 bt134.1 bt134.2.1 bt141.1 bt141.2.1 bt173.1 bt173.2.1 false bt148.1 bt148.2.1)) else (cohousinglaw26_head.j0 k bt121.2.2 bt134.1 bt134.2.1 bt141.1 bt141.2.1 bt173.1 bt173.2.1 false bt148.1 bt148.2.1))))))))) = some true := h
 clear h
 replace H := Option.bind_eq_some_iff.mp H
 obtain ⟨⟨t121, t124, t127⟩, A10, H⟩ := H
 replace H : ((some (([(⟨1, 5, 1⟩ : S55), (⟨2, 6, 2⟩ : S55), (⟨1, 7, 2⟩ : S55), (⟨1, 6, 4⟩ : S55)] : List (S55)) : List (S55))).bind fun y131 => ((chain_Run.f t121 t124 t127 3 y131).bind fun bt134 => ((chain_Run.f t121 t124 t127 4 y131).bind fun bt141 => ((chain_Next.f t121 t124 bt134.1 ([] : List Int)).bind fun bt148 => ((chain_Next.f t121 t124 (([(⟨7, 0, 2⟩ : S51)] : List (S51))) ([] : List Int)).bind fun bt159 => ((chain_Run.f t121 t124 (([(⟨false, (([(⟨5, 1, 2⟩ : S51), (⟨6, 2, 1⟩ : S51)] : List (S51)))⟩ : S49)] : List (S49))) 3 y131).bind fun bt173 => (if bt134.2.2 = 0 then (if bt141.2.2 = 0 then (if bt148.2.2 = 0 then (if bt159.2.2 = 22 then (cohousinglaw26_head.j0 k t127 bt134.1 bt134.2.1 bt141.1 bt141.2.1 bt173.1 bt173.2.1 (bt173.2.2 == 0) bt148.1 bt148.2.1) else (cohousinglaw26_head.j0 k t127 bt134.1 bt134.2.1 bt141.1 bt141.2.1 bt173.1 bt173.2.1 false bt148.1 bt148.2.1)) else (cohousinglaw26_head.j0 k t127 bt134.1 bt134.2.1 bt141.1 bt141.2.1 bt173.1 bt173.2.1 false bt148.1 bt148.2.1)) else (cohousinglaw26_head.j0 k t127 bt134.1 bt134.2.1 bt141.1 bt141.2.1 bt173.1 bt173.2.1 false bt148.1 bt148.2.1)) else (cohousinglaw26_head.j0 k t127 bt134.1 bt134.2.1 bt141.1 bt141.2.1 bt173.1 bt173.2.1 false bt148.1 bt148.2.1)))))))) = some true := H
 have A1 := Aside0.mk A10
 clear A10
 obtain ⟨y131, hy131⟩ : ∃ y_ : List (S55), y_ = (([(⟨1, 5, 1⟩ : S55), (⟨2, 6, 2⟩ : S55), (⟨1, 7, 2⟩ : S55), (⟨1, 6, 4⟩ : S55)] : List (S55))) := ⟨_, rfl⟩
 replace H : ((chain_Run.f t121 t124 t127 3 y131).bind fun bt134 => ((chain_Run.f t121 t124 t127 4 y131).bind fun bt141 => ((chain_Next.f t121 t124 bt134.1 ([] : List Int)).bind fun bt148 => ((chain_Next.f t121 t124 (([(⟨7, 0, 2⟩ : S51)] : List (S51))) ([] : List Int)).bind fun bt159 => ((chain_Run.f t121 t124 (([(⟨false, (([(⟨5, 1, 2⟩ : S51), (⟨6, 2, 1⟩ : S51)] : List (S51)))⟩ : S49)] : List (S49))) 3 y131).bind fun bt173 => (if bt134.2.2 = 0 then (if bt141.2.2 = 0 then (if bt148.2.2 = 0 then (if bt159.2.2 = 22 then (cohousinglaw26_head.j0 k t127 bt134.1 bt134.2.1 bt141.1 bt141.2.1 bt173.1 bt173.2.1 (bt173.2.2 == 0) bt148.1 bt148.2.1) else (cohousinglaw26_head.j0 k t127 bt134.1 bt134.2.1 bt141.1 bt141.2.1 bt173.1 bt173.2.1 false bt148.1 bt148.2.1)) else (cohousinglaw26_head.j0 k t127 bt134.1 bt134.2.1 bt141.1 bt141.2.1 bt173.1 bt173.2.1 false bt148.1 bt148.2.1)) else (cohousinglaw26_head.j0 k t127 bt134.1 bt134.2.1 bt141.1 bt141.2.1 bt173.1 bt173.2.1 false bt148.1 bt148.2.1)) else (cohousinglaw26_head.j0 k t127 bt134.1 bt134.2.1 bt141.1 bt141.2.1 bt173.1 bt173.2.1 false bt148.1 bt148.2.1))))))) = some true := by first | (rw [hy131]; with_reducible exact H) | (have H2_ := (Option.bind_some _ _).symm.trans H; rw [hy131]; with_reducible exact H2_) | (have H2_ := (Option.bind_some _ _).symm.trans H; with_reducible exact H2_) | with_reducible exact H | (rw [hy131]; exact H) | exact H
 have Ny131 := Aside0.mk hy131
 clear hy131
 replace H := Option.bind_eq_some_iff.mp H
 obtain ⟨⟨t134, t137, t140⟩, A20, H⟩ := H
 replace H : ((chain_Run.f t121 t124 t127 4 y131).bind fun bt141 => ((chain_Next.f t121 t124 t134 ([] : List Int)).bind fun bt148 => ((chain_Next.f t121 t124 (([(⟨7, 0, 2⟩ : S51)] : List (S51))) ([] : List Int)).bind fun bt159 => ((chain_Run.f t121 t124 (([(⟨false, (([(⟨5, 1, 2⟩ : S51), (⟨6, 2, 1⟩ : S51)] : List (S51)))⟩ : S49)] : List (S49))) 3 y131).bind fun bt173 => (if t140 = 0 then (if bt141.2.2 = 0 then (if bt148.2.2 = 0 then (if bt159.2.2 = 22 then (cohousinglaw26_head.j0 k t127 t134 t137 bt141.1 bt141.2.1 bt173.1 bt173.2.1 (bt173.2.2 == 0) bt148.1 bt148.2.1) else (cohousinglaw26_head.j0 k t127 t134 t137 bt141.1 bt141.2.1 bt173.1 bt173.2.1 false bt148.1 bt148.2.1)) else (cohousinglaw26_head.j0 k t127 t134 t137 bt141.1 bt141.2.1 bt173.1 bt173.2.1 false bt148.1 bt148.2.1)) else (cohousinglaw26_head.j0 k t127 t134 t137 bt141.1 bt141.2.1 bt173.1 bt173.2.1 false bt148.1 bt148.2.1)) else (cohousinglaw26_head.j0 k t127 t134 t137 bt141.1 bt141.2.1 bt173.1 bt173.2.1 false bt148.1 bt148.2.1)))))) = some true := H
 have A2 := Aside0.mk A20
 clear A20
 replace H := Option.bind_eq_some_iff.mp H
 obtain ⟨⟨t141, t144, t147⟩, A30, H⟩ := H
 replace H : ((chain_Next.f t121 t124 t134 ([] : List Int)).bind fun bt148 => ((chain_Next.f t121 t124 (([(⟨7, 0, 2⟩ : S51)] : List (S51))) ([] : List Int)).bind fun bt159 => ((chain_Run.f t121 t124 (([(⟨false, (([(⟨5, 1, 2⟩ : S51), (⟨6, 2, 1⟩ : S51)] : List (S51)))⟩ : S49)] : List (S49))) 3 y131).bind fun bt173 => (if t140 = 0 then (if t147 = 0 then (if bt148.2.2 = 0 then (if bt159.2.2 = 22 then (cohousinglaw26_head.j0 k t127 t134 t137 t141 t144 bt173.1 bt173.2.1 (bt173.2.2 == 0) bt148.1 bt148.2.1) else (cohousinglaw26_head.j0 k t127 t134 t137 t141 t144 bt173.1 bt173.2.1 false bt148.1 bt148.2.1)) else (cohousinglaw26_head.j0 k t127 t134 t137 t141 t144 bt173.1 bt173.2.1 false bt148.1 bt148.2.1)) else (cohousinglaw26_head.j0 k t127 t134 t137 t141 t144 bt173.1 bt173.2.1 false bt148.1 bt148.2.1)) else (cohousinglaw26_head.j0 k t127 t134 t137 t141 t144 bt173.1 bt173.2.1 false bt148.1 bt148.2.1))))) = some true := H
 have A3 := Aside0.mk A30
 clear A30
 replace H := Option.bind_eq_some_iff.mp H
 obtain ⟨⟨t148, t151, t154⟩, A40, H⟩ := H
 replace H : ((chain_Next.f t121 t124 (([(⟨7, 0, 2⟩ : S51)] : List (S51))) ([] : List Int)).bind fun bt159 => ((chain_Run.f t121 t124 (([(⟨false, (([(⟨5, 1, 2⟩ : S51), (⟨6, 2, 1⟩ : S51)] : List (S51)))⟩ : S49)] : List (S49))) 3 y131).bind fun bt173 => (if t140 = 0 then (if t147 = 0 then (if t154 = 0 then (if bt159.2.2 = 22 then (cohousinglaw26_head.j0 k t127 t134 t137 t141 t144 bt173.1 bt173.2.1 (bt173.2.2 == 0) t148 t151) else (cohousinglaw26_head.j0 k t127 t134 t137 t141 t144 bt173.1 bt173.2.1 false t148 t151)) else (cohousinglaw26_head.j0 k t127 t134 t137 t141 t144 bt173.1 bt173.2.1 false t148 t151)) else (cohousinglaw26_head.j0 k t127 t134 t137 t141 t144 bt173.1 bt173.2.1 false t148 t151)) else (cohousinglaw26_head.j0 k t127 t134 t137 t141 t144 bt173.1 bt173.2.1 false t148 t151)))) = some true := H
 have A4 := Aside0.mk A40
 clear A40
 obtain ⟨y156, hy156⟩ : ∃ y_ : List (S51), y_ = (([(⟨7, 0, 2⟩ : S51)] : List (S51))) := ⟨_, rfl⟩
 replace H : ((chain_Next.f t121 t124 y156 ([] : List Int)).bind fun bt159 => ((chain_Run.f t121 t124 (([(⟨false, (([(⟨5, 1, 2⟩ : S51), (⟨6, 2, 1⟩ : S51)] : List (S51)))⟩ : S49)] : List (S49))) 3 y131).bind fun bt173 => (if t140 = 0 then (if t147 = 0 then (if t154 = 0 then (if bt159.2.2 = 22 then (cohousinglaw26_head.j0 k t127 t134 t137 t141 t144 bt173.1 bt173.2.1 (bt173.2.2 == 0) t148 t151) else (cohousinglaw26_head.j0 k t127 t134 t137 t141 t144 bt173.1 bt173.2.1 false t148 t151)) else (cohousinglaw26_head.j0 k t127 t134 t137 t141 t144 bt173.1 bt173.2.1 false t148 t151)) else (cohousinglaw26_head.j0 k t127 t134 t137 t141 t144 bt173.1 bt173.2.1 false t148 t151)) else (cohousinglaw26_head.j0 k t127 t134 t137 t141 t144 bt173.1 bt173.2.1 false t148 t151)))) = some true := by first | (rw [hy156]; with_reducible exact H) | (have H2_ := (Option.bind_some _ _).symm.trans H; rw [hy156]; with_reducible exact H2_) | (have H2_ := (Option.bind_some _ _).symm.trans H; with_reducible exact H2_) | with_reducible exact H | (rw [hy156]; exact H) | exact H
 have Ny156 := Aside0.mk hy156
 clear hy156
 replace H := Option.bind_eq_some_iff.mp H
 obtain ⟨⟨t159, t162, t165⟩, A50, H⟩ := H
 replace H : ((chain_Run.f t121 t124 (([(⟨false, (([(⟨5, 1, 2⟩ : S51), (⟨6, 2, 1⟩ : S51)] : List (S51)))⟩ : S49)] : List (S49))) 3 y131).bind fun bt173 => (if t140 = 0 then (if t147 = 0 then (if t154 = 0 then (if t165 = 22 then (cohousinglaw26_head.j0 k t127 t134 t137 t141 t144 bt173.1 bt173.2.1 (bt173.2.2 == 0) t148 t151) else (cohousinglaw26_head.j0 k t127 t134 t137 t141 t144 bt173.1 bt173.2.1 false t148 t151)) else (cohousinglaw26_head.j0 k t127 t134 t137 t141 t144 bt173.1 bt173.2.1 false t148 t151)) else (cohousinglaw26_head.j0 k t127 t134 t137 t141 t144 bt173.1 bt173.2.1 false t148 t151)) else (cohousinglaw26_head.j0 k t127 t134 t137 t141 t144 bt173.1 bt173.2.1 false t148 t151))) = some true := H
 have A5 := Aside0.mk A50
 clear A50
 obtain ⟨y167, hy167⟩ : ∃ y_ : List (S51), y_ = (([(⟨5, 1, 2⟩ : S51), (⟨6, 2, 1⟩ : S51)] : List (S51))) := ⟨_, rfl⟩
 replace H : ((chain_Run.f t121 t124 (([(⟨false, y167⟩ : S49)] : List (S49))) 3 y131).bind fun bt173 => (if t140 = 0 then (if t147 = 0 then (if t154 = 0 then (if t165 = 22 then (cohousinglaw26_head.j0 k t127 t134 t137 t141 t144 bt173.1 bt173.2.1 (bt173.2.2 == 0) t148 t151) else (cohousinglaw26_head.j0 k t127 t134 t137 t141 t144 bt173.1 bt173.2.1 false t148 t151)) else (cohousinglaw26_head.j0 k t127 t134 t137 t141 t144 bt173.1 bt173.2.1 false t148 t151)) else (cohousinglaw26_head.j0 k t127 t134 t137 t141 t144 bt173.1 bt173.2.1 false t148 t151)) else (cohousinglaw26_head.j0 k t127 t134 t137 t141 t144 bt173.1 bt173.2.1 false t148 t151))) = some true := by first | (rw [hy167]; with_reducible exact H) | (have H2_ := (Option.bind_some _ _).symm.trans H; rw [hy167]; with_reducible exact H2_) | (have H2_ := (Option.bind_some _ _).symm.trans H; with_reducible exact H2_) | with_reducible exact H | (rw [hy167]; exact H) | exact H
 have Ny167 := Aside0.mk hy167
 clear hy167
 obtain ⟨y170, hy170⟩ : ∃ y_ : List (S49), y_ = (([(⟨false, y167⟩ : S49)] : List (S49))) := ⟨_, rfl⟩
 replace H : ((chain_Run.f t121 t124 y170 3 y131).bind fun bt173 => (if t140 = 0 then (if t147 = 0 then (if t154 = 0 then (if t165 = 22 then (cohousinglaw26_head.j0 k t127 t134 t137 t141 t144 bt173.1 bt173.2.1 (bt173.2.2 == 0) t148 t151) else (cohousinglaw26_head.j0 k t127 t134 t137 t141 t144 bt173.1 bt173.2.1 false t148 t151)) else (cohousinglaw26_head.j0 k t127 t134 t137 t141 t144 bt173.1 bt173.2.1 false t148 t151)) else (cohousinglaw26_head.j0 k t127 t134 t137 t141 t144 bt173.1 bt173.2.1 false t148 t151)) else (cohousinglaw26_head.j0 k t127 t134 t137 t141 t144 bt173.1 bt173.2.1 false t148 t151))) = some true := by first | (rw [hy170]; with_reducible exact H) | (have H2_ := (Option.bind_some _ _).symm.trans H; rw [hy170]; with_reducible exact H2_) | (have H2_ := (Option.bind_some _ _).symm.trans H; with_reducible exact H2_) | with_reducible exact H | (rw [hy170]; exact H) | exact H
 have Ny170 := Aside0.mk hy170
 clear hy170
 replace H := Option.bind_eq_some_iff.mp H
 obtain ⟨⟨t173, t176, t179⟩, A60, H⟩ := H
 replace H : (if t140 = 0 then (if t147 = 0 then (if t154 = 0 then (if t165 = 22 then (cohousinglaw26_head.j0 k t127 t134 t137 t141 t144 t173 t176 (t179 == 0) t148 t151) else (cohousinglaw26_head.j0 k t127 t134 t137 t141 t144 t173 t176 false t148 t151)) else (cohousinglaw26_head.j0 k t127 t134 t137 t141 t144 t173 t176 false t148 t151)) else (cohousinglaw26_head.j0 k t127 t134 t137 t141 t144 t173 t176 false t148 t151)) else (cohousinglaw26_head.j0 k t127 t134 t137 t141 t144 t173 t176 false t148 t151)) = some true := H
 have A6 := Aside0.mk A60
 clear A60
 have HC7 := Aside0.mk H
 clear H
 go_enter Try.func10, Try.ntmps10
 go_upto_region 9 with (first | ((with_reducible refine gate_callee (f := 29) rfl ?_); refine gl_ (some 20) Try.func29 #[] ?_; (with_reducible refine (cohousinglaw26_example.calls  t121 t124 t127 _ A1.out).mono ?_); rintro e w8 ⟨v122, v125, v128, rfl, ho0, ho1, ho2, hb⟩; refine ⟨_, rfl, ?_⟩; have n0_ := Aside0.mk (Kd.R_lower (Kd.R_mono (ok' := fun k_ => True) ho0 (fun _ hk_ => trivial)) (below_size (bb_ HB))); have n1_ := Aside0.mk (Kd.N_lower (Kd.N_mono (ok' := fun k_ => some k_ ≠ (v122 : Value).ownBlock ∧ some k_ ≠ (v128 : Value).ownBlock) ho1 (fun k_ hk_ => ⟨hk_.2.1, hk_.2.2⟩)) (below_size (bb_ HB))); have n2_ := Aside0.mk (Kd.N_lower (Kd.N_mono (ok' := fun k_ => some k_ ≠ (v122 : Value).ownBlock ∧ some k_ ≠ (v125 : Value).ownBlock) ho2 (fun k_ hk_ => ⟨hk_.2.1, hk_.2.2⟩)) (below_size (bb_ HB))); have n3_ := Aside0.mk (below_step (bb_ HB) hb); clear HB; have HO123 := n0_; have HO126 := n1_; have HO129 := n2_; have HB := n3_; clear n0_ n1_ n2_ n3_; (try clear hb); (try clear hb2); (try clear hk); (try clear hi); (try clear ho0); (try clear ho1); (try clear ho2)) | ((with_reducible refine gate_dst (N := 1) rfl ?_); (try (refine gate_guard (by rfl) ?_; dsimp only)); refine box_event ?hg (N := 1) ?hd (cs := #[.slice none 0 0, .slice none 0 0]) (t := 25) ?hr ?_; (case hd => rfl); (case hg => rfl); (case hr => first | (go_simp; done) | (go_simp; rfl)); intro gb130 hg w9 hbox hb; have n0_ := Aside0.mk (Kd.R_below (rr_ HO123) hb); have n1_ := Aside0.mk (Kd.N_below (Kd.N_elderB (by (with_reducible repeat (first | apply Kd.N_alloc | apply Kd.N_drewN | apply Kd.N_drew)); exact HO126.out) gb130 (Nat.le_of_eq hg.symm)) hb); have n2_ := Aside0.mk (Kd.N_below (Kd.N_elderB (by (with_reducible repeat (first | apply Kd.N_alloc | apply Kd.N_drewN | apply Kd.N_drew)); exact HO129.out) gb130 (Nat.le_of_eq hg.symm)) hb); have n3_ := Aside0.mk (below_step (bb_ HB) hb); have n4_ := Aside0.mk (hbox); have n5_ := Aside0.mk ((by rw [hg]; exact (below_size (bb_ HB)) : w.heap.size ≤ gb130)); have n6_ := Aside0.mk ((by rw [hg]; exact (below_size (bb_ HB)) : w.heap.size ≤ gb130)); clear HO123; clear HO126; clear HO129; clear HB; have HO123 := n0_; have HO126 := n1_; have HO129 := n2_; have HB := n3_; have BK130 := n4_; have GW130 := n5_; have GE130 := n6_; clear n0_ n1_ n2_ n3_ n4_ n5_ n6_; clear hb hbox hg; obtain ⟨Ao10, co10, eo10⟩ := Kd.R_slice HO123.out; subst eo10; have hcz11_0 : w9.cell? ⟨gb130, 0, none⟩ = some (.slice none 0 0) := (blk_cell BK130.out 0).trans rfl; have hcz11_1 : w9.cell? ⟨gb130, 1, none⟩ = some (.slice none 0 0) := (blk_cell BK130.out 1).trans rfl; have hfz11_0 := blk_frozen BK130.out 0; have hfz11_1 := blk_frozen BK130.out 1; obtain ⟨Ao12, co12, eo12⟩ := Kd.N_slice HO126.out; subst eo12) | ((with_reducible refine gate_dst (N := 27) rfl ?_); (try (refine gate_guard (by rfl) ?_; dsimp only)); refine Kd.R_lit k55 _ 55 ?hg (N := 27) ?hd (xs := ([(⟨1, 5, 1⟩ : S55), (⟨2, 6, 2⟩ : S55), (⟨1, 7, 2⟩ : S55), (⟨1, 6, 4⟩ : S55)] : List (S55))) (inner := [.int .i64 1, .int .i64 5, .int .i64 1, .int .i64 2, .int .i64 6, .int .i64 2, .int .i64 1, .int .i64 7, .int .i64 2, .int .i64 1, .int .i64 6, .int .i64 4]) (ok := fun _ => True) (okp := fun _ => True) ?hr ?hp (fun _ hk => hk) trivial (Below.refl _ _) (Nat.le_refl _) (by simp) ?_; (case hd => rfl); (case hg => rfl); (case hr => first | (go_simp; done) | (go_simp; rfl)); (case hp => exact (Reps.c3 (show Kd.M k55 _ _ _ (⟨1, 5, 1⟩ : S55) [.int .i64 1, .int .i64 5, .int .i64 1] from (k55_mkM _ _ _ (⟨1, 5, 1⟩ : S55) )) (Reps.c3 (show Kd.M k55 _ _ _ (⟨2, 6, 2⟩ : S55) [.int .i64 2, .int .i64 6, .int .i64 2] from (k55_mkM _ _ _ (⟨2, 6, 2⟩ : S55) )) (Reps.c3 (show Kd.M k55 _ _ _ (⟨1, 7, 2⟩ : S55) [.int .i64 1, .int .i64 7, .int .i64 2] from (k55_mkM _ _ _ (⟨1, 7, 2⟩ : S55) )) (Reps.c3 (show Kd.M k55 _ _ _ (⟨1, 6, 4⟩ : S55) [.int .i64 1, .int .i64 6, .int .i64 4] from (k55_mkM _ _ _ (⟨1, 6, 4⟩ : S55) )) (Reps.none _ _)))))); intro v132 w13 ho14 hb hg_ hnew_; clear hg_ hnew_; (first | rw [← Ny131.out] at ho14 | (simp only [Int.reduceToNat] at ho14; rw [← Ny131.out] at ho14)); have n0_ := Aside0.mk (Kd.R_below (by (with_reducible repeat (first | apply Kd.R_alloc | apply Kd.R_drewN | apply Kd.R_drew)); exact (Kd.R_mono (Kd.R_far (p := ⟨gb130, 1, none⟩) (Kd.R_far (p := ⟨gb130, 0, none⟩) (Kd.R_types HO123.out BK130.out (by decide)) (fun _ hk => hk.2) (.slice Ao10 t121.length co10)) (fun _ hk => hk.2) (.slice Ao12 t124.length co12)) (fun _ h_ => h_.1))) hb); have n1_ := Aside0.mk (Kd.N_elder' (by (with_reducible repeat (first | apply Kd.N_alloc | apply Kd.N_drewN | apply Kd.N_drew)); exact (Kd.N_mono (Kd.N_far (p := ⟨gb130, 1, none⟩) (Kd.N_far (p := ⟨gb130, 0, none⟩) (Kd.N_mono HO126.out (fun k_ hk => (⟨hk, hk.2⟩ : _ ∧ k_ ≠ gb130))) (fun _ hk => hk.2) (.slice Ao10 t121.length co10)) (fun _ hk => hk.2) (.slice Ao12 t124.length co12)) (fun _ h_ => h_.1))) (Kd.R_base ho14) hb); have n2_ := Aside0.mk (Kd.N_elder' (by (with_reducible repeat (first | apply Kd.N_alloc | apply Kd.N_drewN | apply Kd.N_drew)); exact (Kd.N_mono (Kd.N_far (p := ⟨gb130, 1, none⟩) (Kd.N_far (p := ⟨gb130, 0, none⟩) (Kd.N_mono HO129.out (fun k_ hk => (⟨hk, hk.2⟩ : _ ∧ k_ ≠ gb130))) (fun _ hk => hk.2) (.slice Ao10 t121.length co10)) (fun _ hk => hk.2) (.slice Ao12 t124.length co12)) (fun _ h_ => h_.1))) (Kd.R_base ho14) hb); have n3_ := Aside0.mk (Kd.R_lower ho14 (below_size (bs_ HB GE130.out))); have n4_ := Aside0.mk (blk_below (g := gb130) (o := .cells #[.slice Ao10 t121.length co10, .slice Ao12 t124.length co12] 25 (0, 0)) (by (with_reducible repeat (first | refine blk_drewN ?_ _ | refine blk_drew ?_ | refine blk_alloc ?_ _)); refine blk_put (cs := #[.slice Ao10 t121.length co10, .slice none 0 0]) ?_ 1 _ rfl; (with_reducible repeat (first | refine blk_drewN ?_ _ | refine blk_drew ?_ | refine blk_alloc ?_ _)); refine blk_put (cs := #[.slice none 0 0, .slice none 0 0]) ?_ 0 _ rfl; (with_reducible repeat (first | refine blk_drewN ?_ _ | refine blk_drew ?_ | refine blk_alloc ?_ _)); exact BK130.out) hb); have n5_ := Aside0.mk (below_step (bs_ HB GE130.out) hb); clear HO123; clear HO126; clear HO129; clear BK130; clear HB; have HO123 := n0_; have HO126 := n1_; have HO129 := n2_; have HO133 := n3_; have BK130 := n4_; have HB := n5_; clear n0_ n1_ n2_ n3_ n4_ n5_; clear hb ho14; have hcz15_0 : w13.cell? ⟨gb130, 0, none⟩ = some (.slice Ao10 t121.length co10) := (blk_cell BK130.out 0).trans rfl; have hcz15_1 : w13.cell? ⟨gb130, 1, none⟩ = some (.slice Ao12 t124.length co12) := (blk_cell BK130.out 1).trans rfl; have hfz15_0 := blk_frozen BK130.out 0; have hfz15_1 := blk_frozen BK130.out 1; obtain ⟨Ao16, co16, eo16⟩ := Kd.N_slice HO129.out; subst eo16; obtain ⟨Ao17, co17, eo17⟩ := Kd.R_slice HO133.out; subst eo17) | ((with_reducible refine gate_callee (f := 13) rfl ?_); refine gl_ (some 32) Try.func13 #[.agg #[.slice Ao10 t121.length co10, .slice Ao12 t124.length co12], .slice Ao16 t127.length co16, .int .i64 3, .slice Ao17 y131.length co17] ?_; (with_reducible refine (chain_Run.calls _ _ t121 _ _ t124 _ _ t127 3 _ _ y131 t134 t137 t140 _ ?side1 ?side2 ?side3 ?side4 ?side5 ?side6 ?side7 ?side8 A2.out).mono ?_); (case side1 => exact cc_ ((Kd.R_reads' HO123.out).2.2)); (case side2 => exact (Kd.R_reads' HO123.out).2.1); (case side3 => exact cc_ ((Kd.N_reads' HO126.out).2.2)); (case side4 => exact (Kd.N_reads' HO126.out).2.1); (case side5 => exact cc_ ((Kd.N_reads' HO129.out).2.2)); (case side6 => exact (Kd.N_reads' HO129.out).2.1); (case side7 => exact cc_ ((Kd.R_reads' HO133.out).2.2)); (case side8 => exact (Kd.R_reads' HO133.out).2.1); rintro e w18 ⟨v135, v138, rfl, ho0, ho1, hb⟩; refine ⟨_, rfl, ?_⟩; have n0_ := Aside0.mk (Kd.R_below (rr_ HO123) hb); have n1_ := Aside0.mk (Kd.N_mono (Kd.N_told (Kd.N_told (Kd.N_old (by (with_reducible repeat (first | apply Kd.N_alloc | apply Kd.N_drewN | apply Kd.N_drew)); exact HO126.out) hb) (Kd.R_base ho0)) (Kd.R_base ho1)) (fun _ h_ => h_.1)); have n2_ := Aside0.mk (Kd.N_mono (Kd.N_told (Kd.N_told (Kd.N_old (by (with_reducible repeat (first | apply Kd.N_alloc | apply Kd.N_drewN | apply Kd.N_drew)); exact HO129.out) hb) (Kd.R_base ho0)) (Kd.R_base ho1)) (fun _ h_ => h_.1)); have n3_ := Aside0.mk (Kd.R_below (rr_ HO133) hb); have n4_ := Aside0.mk (Kd.R_lower ho0 (below_size (bs_ HB GE130.out))); have n5_ := Aside0.mk (Kd.R_lower ho1 (below_size (bs_ HB GE130.out))); have n6_ := Aside0.mk (blk_below (g := gb130) (o := .cells #[.slice Ao10 t121.length co10, .slice Ao12 t124.length co12] 25 (0, 0)) (kk_ BK130) hb); have n7_ := Aside0.mk (below_step (bs_ HB GE130.out) hb); clear HO123; clear HO126; clear HO129; clear HO133; clear BK130; clear HB; have HO123 := n0_; have HO126 := n1_; have HO129 := n2_; have HO133 := n3_; have HO136 := n4_; have HO139 := n5_; have BK130 := n6_; have HB := n7_; clear n0_ n1_ n2_ n3_ n4_ n5_ n6_ n7_; (try clear hb); (try clear hb2); (try clear hk); (try clear hi); (try clear ho0); (try clear ho1); have hcz19_0 : w18.cell? ⟨gb130, 0, none⟩ = some (.slice Ao10 t121.length co10) := (blk_cell BK130.out 0).trans rfl; have hcz19_1 : w18.cell? ⟨gb130, 1, none⟩ = some (.slice Ao12 t124.length co12) := (blk_cell BK130.out 1).trans rfl; have hfz19_0 := blk_frozen BK130.out 0; have hfz19_1 := blk_frozen BK130.out 1) | ((with_reducible refine gate_callee (f := 13) rfl ?_); refine gl_ (some 40) Try.func13 #[.agg #[.slice Ao10 t121.length co10, .slice Ao12 t124.length co12], .slice Ao16 t127.length co16, .int .i64 4, .slice Ao17 y131.length co17] ?_; (with_reducible refine (chain_Run.calls _ _ t121 _ _ t124 _ _ t127 4 _ _ y131 t141 t144 t147 _ ?side1 ?side2 ?side3 ?side4 ?side5 ?side6 ?side7 ?side8 A3.out).mono ?_); (case side1 => exact cc_ ((Kd.R_reads' HO123.out).2.2)); (case side2 => exact (Kd.R_reads' HO123.out).2.1); (case side3 => exact cc_ ((Kd.N_reads' HO126.out).2.2)); (case side4 => exact (Kd.N_reads' HO126.out).2.1); (case side5 => exact cc_ ((Kd.N_reads' HO129.out).2.2)); (case side6 => exact (Kd.N_reads' HO129.out).2.1); (case side7 => exact cc_ ((Kd.R_reads' HO133.out).2.2)); (case side8 => exact (Kd.R_reads' HO133.out).2.1); rintro e w20 ⟨v142, v145, rfl, ho0, ho1, hb⟩; refine ⟨_, rfl, ?_⟩; have n0_ := Aside0.mk (Kd.R_below (rr_ HO123) hb); have n1_ := Aside0.mk (Kd.N_mono (Kd.N_told (Kd.N_told (Kd.N_old (by (with_reducible repeat (first | apply Kd.N_alloc | apply Kd.N_drewN | apply Kd.N_drew)); exact HO126.out) hb) (Kd.R_base ho0)) (Kd.R_base ho1)) (fun _ h_ => h_.1)); have n2_ := Aside0.mk (Kd.N_mono (Kd.N_told (Kd.N_told (Kd.N_old (by (with_reducible repeat (first | apply Kd.N_alloc | apply Kd.N_drewN | apply Kd.N_drew)); exact HO129.out) hb) (Kd.R_base ho0)) (Kd.R_base ho1)) (fun _ h_ => h_.1)); have n3_ := Aside0.mk (Kd.R_below (rr_ HO133) hb); have n4_ := Aside0.mk (Kd.R_elder' (rr_ HO136) (Kd.R_base ho0) hb); have n5_ := Aside0.mk (Kd.R_elder' (rr_ HO139) (Kd.R_base ho1) hb); have n6_ := Aside0.mk (Kd.R_lower (Kd.R_new' ho0 (Kd.R_lt (rr_ HO136))) (below_size (bs_ HB GE130.out))); have n7_ := Aside0.mk (Kd.R_lower (Kd.R_new' ho1 (Kd.R_lt (rr_ HO139))) (below_size (bs_ HB GE130.out))); have n8_ := Aside0.mk (blk_below (g := gb130) (o := .cells #[.slice Ao10 t121.length co10, .slice Ao12 t124.length co12] 25 (0, 0)) (kk_ BK130) hb); have n9_ := Aside0.mk (below_step (bs_ HB GE130.out) hb); clear HO123; clear HO126; clear HO129; clear HO133; clear HO136; clear HO139; clear BK130; clear HB; have HO123 := n0_; have HO126 := n1_; have HO129 := n2_; have HO133 := n3_; have HO136 := n4_; have HO139 := n5_; have HO143 := n6_; have HO146 := n7_; have BK130 := n8_; have HB := n9_; clear n0_ n1_ n2_ n3_ n4_ n5_ n6_ n7_ n8_ n9_; (try clear hb); (try clear hb2); (try clear hk); (try clear hi); (try clear ho0); (try clear ho1); have hcz21_0 : w20.cell? ⟨gb130, 0, none⟩ = some (.slice Ao10 t121.length co10) := (blk_cell BK130.out 0).trans rfl; have hcz21_1 : w20.cell? ⟨gb130, 1, none⟩ = some (.slice Ao12 t124.length co12) := (blk_cell BK130.out 1).trans rfl; have hfz21_0 := blk_frozen BK130.out 0; have hfz21_1 := blk_frozen BK130.out 1; obtain ⟨Ao22, co22, eo22⟩ := Kd.R_slice HO136.out; subst eo22) | ((with_reducible refine gate_callee (f := 15) rfl ?_); refine gl_ (some 47) Try.func15 #[.agg #[.slice Ao10 t121.length co10, .slice Ao12 t124.length co12], .slice Ao22 t134.length co22, .slice none 0 0] ?_; (refine (chain_Next.calls _ _ t121 _ _ t124 _ _ t134 _ _ ([] : List Int) t148 t151 t154 _ ?side1 ?side2 ?side3 ?side4 ?side5 ?side6 ?side7 ?side8 A4.out).mono ?_); (case side1 => exact cc_ ((Kd.R_reads' HO123.out).2.2)); (case side2 => exact (Kd.R_reads' HO123.out).2.1); (case side3 => exact cc_ ((Kd.N_reads' HO126.out).2.2)); (case side4 => exact (Kd.N_reads' HO126.out).2.1); (case side5 => exact cc_ ((Kd.R_reads' HO136.out).2.2)); (case side6 => exact (Kd.R_reads' HO136.out).2.1); (case side7 => exact Kd.C_nil _ _); (case side8 => exact Nat.le_refl _); rintro e w23 ⟨v149, v152, rfl, ho0, ho1, hb⟩; refine ⟨_, rfl, ?_⟩; have n0_ := Aside0.mk (Kd.R_elder' (rr_ HO123) (Kd.R_base ho0) hb); have n1_ := Aside0.mk (Kd.N_mono (Kd.N_told (Kd.N_told (Kd.N_old (by (with_reducible repeat (first | apply Kd.N_alloc | apply Kd.N_drewN | apply Kd.N_drew)); exact HO126.out) hb) (Kd.R_base ho0)) (Kd.S_base ho1)) (fun _ h_ => h_.1)); have n2_ := Aside0.mk (Kd.N_mono (Kd.N_told (Kd.N_told (Kd.N_old (by (with_reducible repeat (first | apply Kd.N_alloc | apply Kd.N_drewN | apply Kd.N_drew)); exact HO129.out) hb) (Kd.R_base ho0)) (Kd.S_base ho1)) (fun _ h_ => h_.1)); have n3_ := Aside0.mk (Kd.R_below (rr_ HO133) hb); have n4_ := Aside0.mk (Kd.R_below (rr_ HO136) hb); have n5_ := Aside0.mk (Kd.R_below (rr_ HO139) hb); have n6_ := Aside0.mk (Kd.R_below (rr_ HO143) hb); have n7_ := Aside0.mk (Kd.R_below (rr_ HO146) hb); have n8_ := Aside0.mk (Kd.R_lower (Kd.R_new' ho0 (Kd.R_lt (rr_ HO123))) (below_size (bs_ HB GE130.out))); have n9_ := Aside0.mk (Kd.N_lower (Kd.N_mono (ok' := fun k_ => some k_ ≠ (v149 : Value).ownBlock ∧ some k_ ≠ (.slice Ao10 t121.length co10 : Value).ownBlock ∧ some k_ ≠ (.slice Ao12 t124.length co12 : Value).ownBlock ∧ some k_ ≠ (.slice Ao16 t127.length co16 : Value).ownBlock ∧ some k_ ≠ (.slice Ao17 y131.length co17 : Value).ownBlock ∧ some k_ ≠ (.slice Ao22 t134.length co22 : Value).ownBlock ∧ some k_ ≠ (v138 : Value).ownBlock ∧ some k_ ≠ (v142 : Value).ownBlock ∧ some k_ ≠ (v145 : Value).ownBlock ∧ k_ ≠ gb130) (Kd.S_N (Kd.S_bound (Kd.S_apart' ho1 (Kd.R_typed ho0) (by decide)))) (fun k_ hk_ => ⟨hk_.1.2, (Kd.fresh' (Kd.R_lt (rr_ HO123)) k_ hk_.2.1), (Kd.fresh' (Kd.N_lt (by (with_reducible repeat (first | apply Kd.N_alloc | apply Kd.N_drewN | apply Kd.N_drew)); exact HO126.out)) k_ hk_.2.1), (Kd.fresh' (Kd.N_lt (by (with_reducible repeat (first | apply Kd.N_alloc | apply Kd.N_drewN | apply Kd.N_drew)); exact HO129.out)) k_ hk_.2.1), (Kd.fresh' (Kd.R_lt (rr_ HO133)) k_ hk_.2.1), (Kd.fresh' (Kd.R_lt (rr_ HO136)) k_ hk_.2.1), (Kd.fresh' (Kd.R_lt (rr_ HO139)) k_ hk_.2.1), (Kd.fresh' (Kd.R_lt (rr_ HO143)) k_ hk_.2.1), (Kd.fresh' (Kd.R_lt (rr_ HO146)) k_ hk_.2.1), (Kd.freshB (g := gb130) (o := .cells #[.slice Ao10 t121.length co10, .slice Ao12 t124.length co12] 25 (0, 0)) (kk_ BK130) k_ hk_.2.1)⟩)) (below_size (bs_ HB GE130.out))); have n10_ := Aside0.mk (blk_below (g := gb130) (o := .cells #[.slice Ao10 t121.length co10, .slice Ao12 t124.length co12] 25 (0, 0)) (kk_ BK130) hb); have n11_ := Aside0.mk (below_step (bs_ HB GE130.out) hb); clear HO123; clear HO126; clear HO129; clear HO133; clear HO136; clear HO139; clear HO143; clear HO146; clear BK130; clear HB; have HO123 := n0_; have HO126 := n1_; have HO129 := n2_; have HO133 := n3_; have HO136 := n4_; have HO139 := n5_; have HO143 := n6_; have HO146 := n7_; have HO150 := n8_; have HO153 := n9_; have BK130 := n10_; have HB := n11_; clear n0_ n1_ n2_ n3_ n4_ n5_ n6_ n7_ n8_ n9_ n10_ n11_; (try clear hb); (try clear hb2); (try clear hk); (try clear hi); (try clear ho0); (try clear ho1)) | ((with_reducible refine gate_dst (N := 10) rfl ?_); (try (refine gate_guard (by rfl) ?_; dsimp only)); refine box_event ?hg (N := 10) ?hd (cs := #[.slice none 0 0, .slice none 0 0]) (t := 25) ?hr ?_; (case hd => rfl); (case hg => rfl); (case hr => first | (go_simp; done) | (go_simp; rfl)); intro gb155 hg w24 hbox hb; have n0_ := Aside0.mk (Kd.R_below (rr_ HO123) hb); have n1_ := Aside0.mk (Kd.N_below (Kd.N_elderB (by (with_reducible repeat (first | apply Kd.N_alloc | apply Kd.N_drewN | apply Kd.N_drew)); exact HO126.out) gb155 (Nat.le_of_eq hg.symm)) hb); have n2_ := Aside0.mk (Kd.N_below (Kd.N_elderB (by (with_reducible repeat (first | apply Kd.N_alloc | apply Kd.N_drewN | apply Kd.N_drew)); exact HO129.out) gb155 (Nat.le_of_eq hg.symm)) hb); have n3_ := Aside0.mk (Kd.R_below (rr_ HO133) hb); have n4_ := Aside0.mk (Kd.R_below (rr_ HO136) hb); have n5_ := Aside0.mk (Kd.R_below (rr_ HO139) hb); have n6_ := Aside0.mk (Kd.R_below (rr_ HO143) hb); have n7_ := Aside0.mk (Kd.R_below (rr_ HO146) hb); have n8_ := Aside0.mk (Kd.R_below (rr_ HO150) hb); have n9_ := Aside0.mk (Kd.N_below (Kd.N_elderB (by (with_reducible repeat (first | apply Kd.N_alloc | apply Kd.N_drewN | apply Kd.N_drew)); exact HO153.out) gb155 (Nat.le_of_eq hg.symm)) hb); have n10_ := Aside0.mk (blk_below (g := gb130) (o := .cells #[.slice Ao10 t121.length co10, .slice Ao12 t124.length co12] 25 (0, 0)) (kk_ BK130) hb); have n11_ := Aside0.mk (below_step (bs_ HB GE130.out) hb); have n12_ := Aside0.mk (hbox); have n13_ := Aside0.mk ((by rw [hg]; exact (below_size (bs_ HB GE130.out)) : w.heap.size ≤ gb155)); have n14_ := Aside0.mk ((by rw [hg]; exact (below_size (bs_ HB GE130.out)) : w.heap.size ≤ gb155)); have n15_ := Aside0.mk ((by rw [hg]; exact Nat.ne_of_lt (blk_lt (g := gb130) (o := .cells #[.slice Ao10 t121.length co10, .slice Ao12 t124.length co12] 25 (0, 0)) (kk_ BK130)) : gb130 ≠ gb155)); have n16_ := Aside0.mk ((by rw [hg]; exact Nat.ne_of_gt (blk_lt (g := gb130) (o := .cells #[.slice Ao10 t121.length co10, .slice Ao12 t124.length co12] 25 (0, 0)) (kk_ BK130)) : gb155 ≠ gb130)); clear HO123; clear HO126; clear HO129; clear HO133; clear HO136; clear HO139; clear HO143; clear HO146; clear HO150; clear HO153; clear BK130; clear HB; have HO123 := n0_; have HO126 := n1_; have HO129 := n2_; have HO133 := n3_; have HO136 := n4_; have HO139 := n5_; have HO143 := n6_; have HO146 := n7_; have HO150 := n8_; have HO153 := n9_; have BK130 := n10_; have HB := n11_; have BK155 := n12_; have GW155 := n13_; have GE155 := n14_; have NB130_155 := n15_; have NB155_130 := n16_; clear n0_ n1_ n2_ n3_ n4_ n5_ n6_ n7_ n8_ n9_ n10_ n11_ n12_ n13_ n14_ n15_ n16_; clear hb hbox hg; obtain ⟨Ao25, co25, eo25⟩ := Kd.R_slice HO150.out; subst eo25; have hnb26 := NB155_130.out; have hnc26 := NB130_155.out; have hcz27_0 : w24.cell? ⟨gb155, 0, none⟩ = some (.slice none 0 0) := (blk_cell BK155.out 0).trans rfl; have hcz27_1 : w24.cell? ⟨gb155, 1, none⟩ = some (.slice none 0 0) := (blk_cell BK155.out 1).trans rfl; have hfz27_0 := blk_frozen BK155.out 0; have hfz27_1 := blk_frozen BK155.out 1; obtain ⟨Ao28, co28, eo28⟩ := Kd.N_slice HO153.out; subst eo28; have hcz29_0 : w24.cell? ⟨gb130, 0, none⟩ = some (.slice Ao10 t121.length co10) := (blk_cell BK130.out 0).trans rfl; have hcz29_1 : w24.cell? ⟨gb130, 1, none⟩ = some (.slice Ao12 t124.length co12) := (blk_cell BK130.out 1).trans rfl; have hfz29_0 := blk_frozen BK130.out 0; have hfz29_1 := blk_frozen BK130.out 1) | ((with_reducible refine gate_dst (N := 53) rfl ?_); (try (refine gate_guard (by rfl) ?_; dsimp only)); refine Kd.R_lit k51 _ 51 ?hg (N := 53) ?hd (xs := ([(⟨7, 0, 2⟩ : S51)] : List (S51))) (inner := [.int .i64 7, .int .i64 0, .int .i64 2]) (ok := fun _ => True) (okp := fun _ => True) ?hr ?hp (fun _ hk => hk) trivial (Below.refl _ _) (Nat.le_refl _) (by simp) ?_; (case hd => rfl); (case hg => rfl); (case hr => first | (go_simp; done) | (go_simp; rfl)); (case hp => exact (Reps.c3 (show Kd.M k51 _ _ _ (⟨7, 0, 2⟩ : S51) [.int .i64 7, .int .i64 0, .int .i64 2] from (k51_mkM _ _ _ (⟨7, 0, 2⟩ : S51) )) (Reps.none _ _))); intro v157 w30 ho31 hb hg_ hnew_; clear hg_ hnew_; (first | rw [← Ny156.out] at ho31 | (simp only [Int.reduceToNat] at ho31; rw [← Ny156.out] at ho31)); have n0_ := Aside0.mk (Kd.R_below (by (with_reducible repeat (first | apply Kd.R_alloc | apply Kd.R_drewN | apply Kd.R_drew)); exact (Kd.R_mono (Kd.R_far (p := ⟨gb155, 1, none⟩) (Kd.R_far (p := ⟨gb155, 0, none⟩) (Kd.R_types HO123.out BK155.out (by decide)) (fun _ hk => hk.2) (.slice Ao25 t148.length co25)) (fun _ hk => hk.2) (.slice Ao28 t151.length co28)) (fun _ h_ => h_.1))) hb); have n1_ := Aside0.mk (Kd.N_elder' (by (with_reducible repeat (first | apply Kd.N_alloc | apply Kd.N_drewN | apply Kd.N_drew)); exact (Kd.N_mono (Kd.N_far (p := ⟨gb155, 1, none⟩) (Kd.N_far (p := ⟨gb155, 0, none⟩) (Kd.N_mono HO126.out (fun k_ hk => (⟨hk, hk.2⟩ : _ ∧ k_ ≠ gb155))) (fun _ hk => hk.2) (.slice Ao25 t148.length co25)) (fun _ hk => hk.2) (.slice Ao28 t151.length co28)) (fun _ h_ => h_.1))) (Kd.R_base ho31) hb); have n2_ := Aside0.mk (Kd.N_elder' (by (with_reducible repeat (first | apply Kd.N_alloc | apply Kd.N_drewN | apply Kd.N_drew)); exact (Kd.N_mono (Kd.N_far (p := ⟨gb155, 1, none⟩) (Kd.N_far (p := ⟨gb155, 0, none⟩) (Kd.N_mono HO129.out (fun k_ hk => (⟨hk, hk.2⟩ : _ ∧ k_ ≠ gb155))) (fun _ hk => hk.2) (.slice Ao25 t148.length co25)) (fun _ hk => hk.2) (.slice Ao28 t151.length co28)) (fun _ h_ => h_.1))) (Kd.R_base ho31) hb); have n3_ := Aside0.mk (Kd.R_below (by (with_reducible repeat (first | apply Kd.R_alloc | apply Kd.R_drewN | apply Kd.R_drew)); exact (Kd.R_mono (Kd.R_far (p := ⟨gb155, 1, none⟩) (Kd.R_far (p := ⟨gb155, 0, none⟩) (Kd.R_types HO133.out BK155.out (by decide)) (fun _ hk => hk.2) (.slice Ao25 t148.length co25)) (fun _ hk => hk.2) (.slice Ao28 t151.length co28)) (fun _ h_ => h_.1))) hb); have n4_ := Aside0.mk (Kd.R_elder' (by (with_reducible repeat (first | apply Kd.R_alloc | apply Kd.R_drewN | apply Kd.R_drew)); exact (Kd.R_mono (Kd.R_far (p := ⟨gb155, 1, none⟩) (Kd.R_far (p := ⟨gb155, 0, none⟩) (Kd.R_types HO136.out BK155.out (by decide)) (fun _ hk => hk.2) (.slice Ao25 t148.length co25)) (fun _ hk => hk.2) (.slice Ao28 t151.length co28)) (fun _ h_ => h_.1))) (Kd.R_base ho31) hb); have n5_ := Aside0.mk (Kd.R_below (by (with_reducible repeat (first | apply Kd.R_alloc | apply Kd.R_drewN | apply Kd.R_drew)); exact (Kd.R_mono (Kd.R_far (p := ⟨gb155, 1, none⟩) (Kd.R_far (p := ⟨gb155, 0, none⟩) (Kd.R_types HO139.out BK155.out (by decide)) (fun _ hk => hk.2) (.slice Ao25 t148.length co25)) (fun _ hk => hk.2) (.slice Ao28 t151.length co28)) (fun _ h_ => h_.1))) hb); have n6_ := Aside0.mk (Kd.R_elder' (by (with_reducible repeat (first | apply Kd.R_alloc | apply Kd.R_drewN | apply Kd.R_drew)); exact (Kd.R_mono (Kd.R_far (p := ⟨gb155, 1, none⟩) (Kd.R_far (p := ⟨gb155, 0, none⟩) (Kd.R_types HO143.out BK155.out (by decide)) (fun _ hk => hk.2) (.slice Ao25 t148.length co25)) (fun _ hk => hk.2) (.slice Ao28 t151.length co28)) (fun _ h_ => h_.1))) (Kd.R_base ho31) hb); have n7_ := Aside0.mk (Kd.R_below (by (with_reducible repeat (first | apply Kd.R_alloc | apply Kd.R_drewN | apply Kd.R_drew)); exact (Kd.R_mono (Kd.R_far (p := ⟨gb155, 1, none⟩) (Kd.R_far (p := ⟨gb155, 0, none⟩) (Kd.R_types HO146.out BK155.out (by decide)) (fun _ hk => hk.2) (.slice Ao25 t148.length co25)) (fun _ hk => hk.2) (.slice Ao28 t151.length co28)) (fun _ h_ => h_.1))) hb); have n8_ := Aside0.mk (Kd.R_below (by (with_reducible repeat (first | apply Kd.R_alloc | apply Kd.R_drewN | apply Kd.R_drew)); exact (Kd.R_mono (Kd.R_far (p := ⟨gb155, 1, none⟩) (Kd.R_far (p := ⟨gb155, 0, none⟩) (Kd.R_types HO150.out BK155.out (by decide)) (fun _ hk => hk.2) (.slice Ao25 t148.length co25)) (fun _ hk => hk.2) (.slice Ao28 t151.length co28)) (fun _ h_ => h_.1))) hb); have n9_ := Aside0.mk (Kd.N_elder' (by (with_reducible repeat (first | apply Kd.N_alloc | apply Kd.N_drewN | apply Kd.N_drew)); exact (Kd.N_mono (Kd.N_far (p := ⟨gb155, 1, none⟩) (Kd.N_far (p := ⟨gb155, 0, none⟩) (Kd.N_mono HO153.out (fun k_ hk => (⟨hk, hk.2⟩ : _ ∧ k_ ≠ gb155))) (fun _ hk => hk.2) (.slice Ao25 t148.length co25)) (fun _ hk => hk.2) (.slice Ao28 t151.length co28)) (fun _ h_ => h_.1))) (Kd.R_base ho31) hb); have n10_ := Aside0.mk (Kd.R_lower (Kd.R_new' (Kd.R_new' ho31 (Kd.R_lt (by (with_reducible repeat (first | apply Kd.R_alloc | apply Kd.R_drewN | apply Kd.R_drew)); exact (Kd.R_mono (Kd.R_far (p := ⟨gb155, 1, none⟩) (Kd.R_far (p := ⟨gb155, 0, none⟩) (Kd.R_types HO136.out BK155.out (by decide)) (fun _ hk => hk.2) (.slice Ao25 t148.length co25)) (fun _ hk => hk.2) (.slice Ao28 t151.length co28)) (fun _ h_ => h_.1))))) (Kd.R_lt (by (with_reducible repeat (first | apply Kd.R_alloc | apply Kd.R_drewN | apply Kd.R_drew)); exact (Kd.R_mono (Kd.R_far (p := ⟨gb155, 1, none⟩) (Kd.R_far (p := ⟨gb155, 0, none⟩) (Kd.R_types HO143.out BK155.out (by decide)) (fun _ hk => hk.2) (.slice Ao25 t148.length co25)) (fun _ hk => hk.2) (.slice Ao28 t151.length co28)) (fun _ h_ => h_.1))))) (below_size (by repeat (first | (with_reducible first | exact HB.out | apply below_alloc | apply pw_below_drewN | apply below_drew1 | refine below_set ?_ GE130.out | refine below_set ?_ GE155.out) | exact HB.out)))); have n11_ := Aside0.mk (blk_below (g := gb130) (o := .cells #[.slice Ao10 t121.length co10, .slice Ao12 t124.length co12] 25 (0, 0)) (by (with_reducible repeat (first | refine blk_drewN ?_ _ | refine blk_drew ?_ | refine blk_alloc ?_ _)); refine blk_far ?_ NB130_155.out _; (with_reducible repeat (first | refine blk_drewN ?_ _ | refine blk_drew ?_ | refine blk_alloc ?_ _)); refine blk_far ?_ NB130_155.out _; (with_reducible repeat (first | refine blk_drewN ?_ _ | refine blk_drew ?_ | refine blk_alloc ?_ _)); exact BK130.out) hb); have n12_ := Aside0.mk (blk_below (g := gb155) (o := .cells #[.slice Ao25 t148.length co25, .slice Ao28 t151.length co28] 25 (0, 0)) (by (with_reducible repeat (first | refine blk_drewN ?_ _ | refine blk_drew ?_ | refine blk_alloc ?_ _)); refine blk_put (cs := #[.slice Ao25 t148.length co25, .slice none 0 0]) ?_ 1 _ rfl; (with_reducible repeat (first | refine blk_drewN ?_ _ | refine blk_drew ?_ | refine blk_alloc ?_ _)); refine blk_put (cs := #[.slice none 0 0, .slice none 0 0]) ?_ 0 _ rfl; (with_reducible repeat (first | refine blk_drewN ?_ _ | refine blk_drew ?_ | refine blk_alloc ?_ _)); exact BK155.out) hb); have n13_ := Aside0.mk (below_step (by repeat (first | (with_reducible first | exact HB.out | apply below_alloc | apply pw_below_drewN | apply below_drew1 | refine below_set ?_ GE130.out | refine below_set ?_ GE155.out) | exact HB.out)) hb); clear HO123; clear HO126; clear HO129; clear HO133; clear HO136; clear HO139; clear HO143; clear HO146; clear HO150; clear HO153; clear BK130; clear BK155; clear HB; have HO123 := n0_; have HO126 := n1_; have HO129 := n2_; have HO133 := n3_; have HO136 := n4_; have HO139 := n5_; have HO143 := n6_; have HO146 := n7_; have HO150 := n8_; have HO153 := n9_; have HO158 := n10_; have BK130 := n11_; have BK155 := n12_; have HB := n13_; clear n0_ n1_ n2_ n3_ n4_ n5_ n6_ n7_ n8_ n9_ n10_ n11_ n12_ n13_; clear hb ho31; obtain ⟨Ao32, co32, eo32⟩ := Kd.R_slice HO158.out; subst eo32) | ((with_reducible refine gate_callee (f := 15) rfl ?_); refine gl_ (some 54) Try.func15 #[.agg #[.slice Ao10 t121.length co10, .slice Ao12 t124.length co12], .slice Ao32 y156.length co32, .slice none 0 0] ?_; (refine (chain_Next.calls _ _ t121 _ _ t124 _ _ y156 _ _ ([] : List Int) t159 t162 t165 _ ?side1 ?side2 ?side3 ?side4 ?side5 ?side6 ?side7 ?side8 A5.out).mono ?_); (case side1 => exact cc_ ((Kd.R_reads' HO123.out).2.2)); (case side2 => exact (Kd.R_reads' HO123.out).2.1); (case side3 => exact cc_ ((Kd.N_reads' HO126.out).2.2)); (case side4 => exact (Kd.N_reads' HO126.out).2.1); (case side5 => exact cc_ ((Kd.R_reads' HO158.out).2.2)); (case side6 => exact (Kd.R_reads' HO158.out).2.1); (case side7 => exact Kd.C_nil _ _); (case side8 => exact Nat.le_refl _); rintro e w33 ⟨v160, v163, rfl, ho0, ho1, hb⟩; refine ⟨_, rfl, ?_⟩; have n0_ := Aside0.mk (Kd.R_elder' (rr_ HO123) (Kd.R_base ho0) hb); have n1_ := Aside0.mk (Kd.N_mono (Kd.N_told (Kd.N_told (Kd.N_old (by (with_reducible repeat (first | apply Kd.N_alloc | apply Kd.N_drewN | apply Kd.N_drew)); exact HO126.out) hb) (Kd.R_base ho0)) (Kd.S_base ho1)) (fun _ h_ => h_.1)); have n2_ := Aside0.mk (Kd.N_mono (Kd.N_told (Kd.N_told (Kd.N_old (by (with_reducible repeat (first | apply Kd.N_alloc | apply Kd.N_drewN | apply Kd.N_drew)); exact HO129.out) hb) (Kd.R_base ho0)) (Kd.S_base ho1)) (fun _ h_ => h_.1)); have n3_ := Aside0.mk (Kd.R_below (rr_ HO133) hb); have n4_ := Aside0.mk (Kd.R_below (rr_ HO136) hb); have n5_ := Aside0.mk (Kd.R_below (rr_ HO139) hb); have n6_ := Aside0.mk (Kd.R_below (rr_ HO143) hb); have n7_ := Aside0.mk (Kd.R_below (rr_ HO146) hb); have n8_ := Aside0.mk (Kd.R_elder' (rr_ HO150) (Kd.R_base ho0) hb); have n9_ := Aside0.mk (Kd.N_mono (Kd.N_told (Kd.N_told (Kd.N_old (by (with_reducible repeat (first | apply Kd.N_alloc | apply Kd.N_drewN | apply Kd.N_drew)); exact HO153.out) hb) (Kd.R_base ho0)) (Kd.S_base ho1)) (fun _ h_ => h_.1)); have n10_ := Aside0.mk (Kd.R_below (rr_ HO158) hb); have n11_ := Aside0.mk (Kd.R_lower (Kd.R_new' (Kd.R_new' ho0 (Kd.R_lt (rr_ HO123))) (Kd.R_lt (rr_ HO150))) (below_size (by repeat (first | (with_reducible first | exact HB.out | apply below_alloc | apply pw_below_drewN | apply below_drew1 | refine below_set ?_ GE130.out | refine below_set ?_ GE155.out) | exact HB.out)))); have n12_ := Aside0.mk (Kd.N_lower (Kd.N_mono (ok' := fun k_ => some k_ ≠ (v160 : Value).ownBlock ∧ some k_ ≠ (.slice Ao10 t121.length co10 : Value).ownBlock ∧ some k_ ≠ (.slice Ao12 t124.length co12 : Value).ownBlock ∧ some k_ ≠ (.slice Ao16 t127.length co16 : Value).ownBlock ∧ some k_ ≠ (.slice Ao17 y131.length co17 : Value).ownBlock ∧ some k_ ≠ (.slice Ao22 t134.length co22 : Value).ownBlock ∧ some k_ ≠ (v138 : Value).ownBlock ∧ some k_ ≠ (v142 : Value).ownBlock ∧ some k_ ≠ (v145 : Value).ownBlock ∧ some k_ ≠ (.slice Ao25 t148.length co25 : Value).ownBlock ∧ some k_ ≠ (.slice Ao28 t151.length co28 : Value).ownBlock ∧ some k_ ≠ (.slice Ao32 y156.length co32 : Value).ownBlock ∧ k_ ≠ gb130 ∧ k_ ≠ gb155) (Kd.S_N (Kd.S_bound (Kd.S_apart' ho1 (Kd.R_typed ho0) (by decide)))) (fun k_ hk_ => ⟨hk_.1.2, (Kd.fresh' (Kd.R_lt (rr_ HO123)) k_ hk_.2.1), (Kd.fresh' (Kd.N_lt (by (with_reducible repeat (first | apply Kd.N_alloc | apply Kd.N_drewN | apply Kd.N_drew)); exact HO126.out)) k_ hk_.2.1), (Kd.fresh' (Kd.N_lt (by (with_reducible repeat (first | apply Kd.N_alloc | apply Kd.N_drewN | apply Kd.N_drew)); exact HO129.out)) k_ hk_.2.1), (Kd.fresh' (Kd.R_lt (rr_ HO133)) k_ hk_.2.1), (Kd.fresh' (Kd.R_lt (rr_ HO136)) k_ hk_.2.1), (Kd.fresh' (Kd.R_lt (rr_ HO139)) k_ hk_.2.1), (Kd.fresh' (Kd.R_lt (rr_ HO143)) k_ hk_.2.1), (Kd.fresh' (Kd.R_lt (rr_ HO146)) k_ hk_.2.1), (Kd.fresh' (Kd.R_lt (rr_ HO150)) k_ hk_.2.1), (Kd.fresh' (Kd.N_lt (by (with_reducible repeat (first | apply Kd.N_alloc | apply Kd.N_drewN | apply Kd.N_drew)); exact HO153.out)) k_ hk_.2.1), (Kd.fresh' (Kd.R_lt (rr_ HO158)) k_ hk_.2.1), (Kd.freshB (g := gb130) (o := .cells #[.slice Ao10 t121.length co10, .slice Ao12 t124.length co12] 25 (0, 0)) (kk_ BK130) k_ hk_.2.1), (Kd.freshB (g := gb155) (o := .cells #[.slice Ao25 t148.length co25, .slice Ao28 t151.length co28] 25 (0, 0)) (kk_ BK155) k_ hk_.2.1)⟩)) (below_size (by repeat (first | (with_reducible first | exact HB.out | apply below_alloc | apply pw_below_drewN | apply below_drew1 | refine below_set ?_ GE130.out | refine below_set ?_ GE155.out) | exact HB.out)))); have n13_ := Aside0.mk (blk_below (g := gb130) (o := .cells #[.slice Ao10 t121.length co10, .slice Ao12 t124.length co12] 25 (0, 0)) (kk_ BK130) hb); have n14_ := Aside0.mk (blk_below (g := gb155) (o := .cells #[.slice Ao25 t148.length co25, .slice Ao28 t151.length co28] 25 (0, 0)) (kk_ BK155) hb); have n15_ := Aside0.mk (below_step (by repeat (first | (with_reducible first | exact HB.out | apply below_alloc | apply pw_below_drewN | apply below_drew1 | refine below_set ?_ GE130.out | refine below_set ?_ GE155.out) | exact HB.out)) hb); clear HO123; clear HO126; clear HO129; clear HO133; clear HO136; clear HO139; clear HO143; clear HO146; clear HO150; clear HO153; clear HO158; clear BK130; clear BK155; clear HB; have HO123 := n0_; have HO126 := n1_; have HO129 := n2_; have HO133 := n3_; have HO136 := n4_; have HO139 := n5_; have HO143 := n6_; have HO146 := n7_; have HO150 := n8_; have HO153 := n9_; have HO158 := n10_; have HO161 := n11_; have HO164 := n12_; have BK130 := n13_; have BK155 := n14_; have HB := n15_; clear n0_ n1_ n2_ n3_ n4_ n5_ n6_ n7_ n8_ n9_ n10_ n11_ n12_ n13_ n14_ n15_; (try clear hb); (try clear hb2); (try clear hk); (try clear hi); (try clear ho0); (try clear ho1)) | ((with_reducible refine gate_dst (N := 12) rfl ?_); (try (refine gate_guard (by rfl) ?_; dsimp only)); refine box_event ?hg (N := 12) ?hd (cs := #[.slice none 0 0, .slice none 0 0]) (t := 25) ?hr ?_; (case hd => rfl); (case hg => rfl); (case hr => first | (go_simp; done) | (go_simp; rfl)); intro gb166 hg w34 hbox hb; have n0_ := Aside0.mk (Kd.R_below (rr_ HO123) hb); have n1_ := Aside0.mk (Kd.N_below (Kd.N_elderB (by (with_reducible repeat (first | apply Kd.N_alloc | apply Kd.N_drewN | apply Kd.N_drew)); exact HO126.out) gb166 (Nat.le_of_eq hg.symm)) hb); have n2_ := Aside0.mk (Kd.N_below (Kd.N_elderB (by (with_reducible repeat (first | apply Kd.N_alloc | apply Kd.N_drewN | apply Kd.N_drew)); exact HO129.out) gb166 (Nat.le_of_eq hg.symm)) hb); have n3_ := Aside0.mk (Kd.R_below (rr_ HO133) hb); have n4_ := Aside0.mk (Kd.R_below (rr_ HO136) hb); have n5_ := Aside0.mk (Kd.R_below (rr_ HO139) hb); have n6_ := Aside0.mk (Kd.R_below (rr_ HO143) hb); have n7_ := Aside0.mk (Kd.R_below (rr_ HO146) hb); have n8_ := Aside0.mk (Kd.R_below (rr_ HO150) hb); have n9_ := Aside0.mk (Kd.N_below (Kd.N_elderB (by (with_reducible repeat (first | apply Kd.N_alloc | apply Kd.N_drewN | apply Kd.N_drew)); exact HO153.out) gb166 (Nat.le_of_eq hg.symm)) hb); have n10_ := Aside0.mk (Kd.R_below (rr_ HO158) hb); have n11_ := Aside0.mk (Kd.R_below (rr_ HO161) hb); have n12_ := Aside0.mk (Kd.N_below (Kd.N_elderB (by (with_reducible repeat (first | apply Kd.N_alloc | apply Kd.N_drewN | apply Kd.N_drew)); exact HO164.out) gb166 (Nat.le_of_eq hg.symm)) hb); have n13_ := Aside0.mk (blk_below (g := gb130) (o := .cells #[.slice Ao10 t121.length co10, .slice Ao12 t124.length co12] 25 (0, 0)) (kk_ BK130) hb); have n14_ := Aside0.mk (blk_below (g := gb155) (o := .cells #[.slice Ao25 t148.length co25, .slice Ao28 t151.length co28] 25 (0, 0)) (kk_ BK155) hb); have n15_ := Aside0.mk (below_step (by repeat (first | (with_reducible first | exact HB.out | apply below_alloc | apply pw_below_drewN | apply below_drew1 | refine below_set ?_ GE130.out | refine below_set ?_ GE155.out) | exact HB.out)) hb); have n16_ := Aside0.mk (hbox); have n17_ := Aside0.mk ((by rw [hg]; exact (below_size (by repeat (first | (with_reducible first | exact HB.out | apply below_alloc | apply pw_below_drewN | apply below_drew1 | refine below_set ?_ GE130.out | refine below_set ?_ GE155.out) | exact HB.out))) : w.heap.size ≤ gb166)); have n18_ := Aside0.mk ((by rw [hg]; exact (below_size (by repeat (first | (with_reducible first | exact HB.out | apply below_alloc | apply pw_below_drewN | apply below_drew1 | refine below_set ?_ GE130.out | refine below_set ?_ GE155.out) | exact HB.out))) : w.heap.size ≤ gb166)); have n19_ := Aside0.mk ((by rw [hg]; exact Nat.ne_of_lt (blk_lt (g := gb130) (o := .cells #[.slice Ao10 t121.length co10, .slice Ao12 t124.length co12] 25 (0, 0)) (kk_ BK130)) : gb130 ≠ gb166)); have n20_ := Aside0.mk ((by rw [hg]; exact Nat.ne_of_gt (blk_lt (g := gb130) (o := .cells #[.slice Ao10 t121.length co10, .slice Ao12 t124.length co12] 25 (0, 0)) (kk_ BK130)) : gb166 ≠ gb130)); have n21_ := Aside0.mk ((by rw [hg]; exact Nat.ne_of_lt (blk_lt (g := gb155) (o := .cells #[.slice Ao25 t148.length co25, .slice Ao28 t151.length co28] 25 (0, 0)) (kk_ BK155)) : gb155 ≠ gb166)); have n22_ := Aside0.mk ((by rw [hg]; exact Nat.ne_of_gt (blk_lt (g := gb155) (o := .cells #[.slice Ao25 t148.length co25, .slice Ao28 t151.length co28] 25 (0, 0)) (kk_ BK155)) : gb166 ≠ gb155)); clear HO123; clear HO126; clear HO129; clear HO133; clear HO136; clear HO139; clear HO143; clear HO146; clear HO150; clear HO153; clear HO158; clear HO161; clear HO164; clear BK130; clear BK155; clear HB; have HO123 := n0_; have HO126 := n1_; have HO129 := n2_; have HO133 := n3_; have HO136 := n4_; have HO139 := n5_; have HO143 := n6_; have HO146 := n7_; have HO150 := n8_; have HO153 := n9_; have HO158 := n10_; have HO161 := n11_; have HO164 := n12_; have BK130 := n13_; have BK155 := n14_; have HB := n15_; have BK166 := n16_; have GW166 := n17_; have GE166 := n18_; have NB130_166 := n19_; have NB166_130 := n20_; have NB155_166 := n21_; have NB166_155 := n22_; clear n0_ n1_ n2_ n3_ n4_ n5_ n6_ n7_ n8_ n9_ n10_ n11_ n12_ n13_ n14_ n15_ n16_ n17_ n18_ n19_ n20_ n21_ n22_; clear hb hbox hg; obtain ⟨Ao35, co35, eo35⟩ := Kd.R_slice HO161.out; subst eo35; have hnb36 := NB166_130.out; have hnc36 := NB130_166.out; have hnb37 := NB166_155.out; have hnc37 := NB155_166.out; have hcz38_0 : w34.cell? ⟨gb166, 0, none⟩ = some (.slice none 0 0) := (blk_cell BK166.out 0).trans rfl; have hcz38_1 : w34.cell? ⟨gb166, 1, none⟩ = some (.slice none 0 0) := (blk_cell BK166.out 1).trans rfl; have hfz38_0 := blk_frozen BK166.out 0; have hfz38_1 := blk_frozen BK166.out 1; obtain ⟨Ao39, co39, eo39⟩ := Kd.N_slice HO164.out; subst eo39) | ((with_reducible refine gate_dst (N := 59) rfl ?_); (try (refine gate_guard (by rfl) ?_; dsimp only)); refine Kd.R_lit k51 _ 51 ?hg (N := 59) ?hd (xs := ([(⟨5, 1, 2⟩ : S51), (⟨6, 2, 1⟩ : S51)] : List (S51))) (inner := [.int .i64 5, .int .i64 1, .int .i64 2, .int .i64 6, .int .i64 2, .int .i64 1]) (ok := fun _ => True) (okp := fun _ => True) ?hr ?hp (fun _ hk => hk) trivial (Below.refl _ _) (Nat.le_refl _) (by simp) ?_; (case hd => rfl); (case hg => rfl); (case hr => first | (go_simp; done) | (go_simp; rfl)); (case hp => exact (Reps.c3 (show Kd.M k51 _ _ _ (⟨5, 1, 2⟩ : S51) [.int .i64 5, .int .i64 1, .int .i64 2] from (k51_mkM _ _ _ (⟨5, 1, 2⟩ : S51) )) (Reps.c3 (show Kd.M k51 _ _ _ (⟨6, 2, 1⟩ : S51) [.int .i64 6, .int .i64 2, .int .i64 1] from (k51_mkM _ _ _ (⟨6, 2, 1⟩ : S51) )) (Reps.none _ _)))); intro v168 w40 ho41 hb hg_ hnew_; clear hg_ hnew_; (first | rw [← Ny167.out] at ho41 | (simp only [Int.reduceToNat] at ho41; rw [← Ny167.out] at ho41)); have n0_ := Aside0.mk (Kd.R_below (by (with_reducible repeat (first | apply Kd.R_alloc | apply Kd.R_drewN | apply Kd.R_drew)); exact (Kd.R_mono (Kd.R_far (p := ⟨gb166, 1, none⟩) (Kd.R_far (p := ⟨gb166, 0, none⟩) (Kd.R_types HO123.out BK166.out (by decide)) (fun _ hk => hk.2) (.slice Ao35 t159.length co35)) (fun _ hk => hk.2) (.slice Ao39 t162.length co39)) (fun _ h_ => h_.1))) hb); have n1_ := Aside0.mk (Kd.N_elder' (by (with_reducible repeat (first | apply Kd.N_alloc | apply Kd.N_drewN | apply Kd.N_drew)); exact (Kd.N_mono (Kd.N_far (p := ⟨gb166, 1, none⟩) (Kd.N_far (p := ⟨gb166, 0, none⟩) (Kd.N_mono HO126.out (fun k_ hk => (⟨hk, hk.2⟩ : _ ∧ k_ ≠ gb166))) (fun _ hk => hk.2) (.slice Ao35 t159.length co35)) (fun _ hk => hk.2) (.slice Ao39 t162.length co39)) (fun _ h_ => h_.1))) (Kd.R_base ho41) hb); have n2_ := Aside0.mk (Kd.N_elder' (by (with_reducible repeat (first | apply Kd.N_alloc | apply Kd.N_drewN | apply Kd.N_drew)); exact (Kd.N_mono (Kd.N_far (p := ⟨gb166, 1, none⟩) (Kd.N_far (p := ⟨gb166, 0, none⟩) (Kd.N_mono HO129.out (fun k_ hk => (⟨hk, hk.2⟩ : _ ∧ k_ ≠ gb166))) (fun _ hk => hk.2) (.slice Ao35 t159.length co35)) (fun _ hk => hk.2) (.slice Ao39 t162.length co39)) (fun _ h_ => h_.1))) (Kd.R_base ho41) hb); have n3_ := Aside0.mk (Kd.R_below (by (with_reducible repeat (first | apply Kd.R_alloc | apply Kd.R_drewN | apply Kd.R_drew)); exact (Kd.R_mono (Kd.R_far (p := ⟨gb166, 1, none⟩) (Kd.R_far (p := ⟨gb166, 0, none⟩) (Kd.R_types HO133.out BK166.out (by decide)) (fun _ hk => hk.2) (.slice Ao35 t159.length co35)) (fun _ hk => hk.2) (.slice Ao39 t162.length co39)) (fun _ h_ => h_.1))) hb); have n4_ := Aside0.mk (Kd.R_elder' (by (with_reducible repeat (first | apply Kd.R_alloc | apply Kd.R_drewN | apply Kd.R_drew)); exact (Kd.R_mono (Kd.R_far (p := ⟨gb166, 1, none⟩) (Kd.R_far (p := ⟨gb166, 0, none⟩) (Kd.R_types HO136.out BK166.out (by decide)) (fun _ hk => hk.2) (.slice Ao35 t159.length co35)) (fun _ hk => hk.2) (.slice Ao39 t162.length co39)) (fun _ h_ => h_.1))) (Kd.R_base ho41) hb); have n5_ := Aside0.mk (Kd.R_below (by (with_reducible repeat (first | apply Kd.R_alloc | apply Kd.R_drewN | apply Kd.R_drew)); exact (Kd.R_mono (Kd.R_far (p := ⟨gb166, 1, none⟩) (Kd.R_far (p := ⟨gb166, 0, none⟩) (Kd.R_types HO139.out BK166.out (by decide)) (fun _ hk => hk.2) (.slice Ao35 t159.length co35)) (fun _ hk => hk.2) (.slice Ao39 t162.length co39)) (fun _ h_ => h_.1))) hb); have n6_ := Aside0.mk (Kd.R_elder' (by (with_reducible repeat (first | apply Kd.R_alloc | apply Kd.R_drewN | apply Kd.R_drew)); exact (Kd.R_mono (Kd.R_far (p := ⟨gb166, 1, none⟩) (Kd.R_far (p := ⟨gb166, 0, none⟩) (Kd.R_types HO143.out BK166.out (by decide)) (fun _ hk => hk.2) (.slice Ao35 t159.length co35)) (fun _ hk => hk.2) (.slice Ao39 t162.length co39)) (fun _ h_ => h_.1))) (Kd.R_base ho41) hb); have n7_ := Aside0.mk (Kd.R_below (by (with_reducible repeat (first | apply Kd.R_alloc | apply Kd.R_drewN | apply Kd.R_drew)); exact (Kd.R_mono (Kd.R_far (p := ⟨gb166, 1, none⟩) (Kd.R_far (p := ⟨gb166, 0, none⟩) (Kd.R_types HO146.out BK166.out (by decide)) (fun _ hk => hk.2) (.slice Ao35 t159.length co35)) (fun _ hk => hk.2) (.slice Ao39 t162.length co39)) (fun _ h_ => h_.1))) hb); have n8_ := Aside0.mk (Kd.R_below (by (with_reducible repeat (first | apply Kd.R_alloc | apply Kd.R_drewN | apply Kd.R_drew)); exact (Kd.R_mono (Kd.R_far (p := ⟨gb166, 1, none⟩) (Kd.R_far (p := ⟨gb166, 0, none⟩) (Kd.R_types HO150.out BK166.out (by decide)) (fun _ hk => hk.2) (.slice Ao35 t159.length co35)) (fun _ hk => hk.2) (.slice Ao39 t162.length co39)) (fun _ h_ => h_.1))) hb); have n9_ := Aside0.mk (Kd.N_elder' (by (with_reducible repeat (first | apply Kd.N_alloc | apply Kd.N_drewN | apply Kd.N_drew)); exact (Kd.N_mono (Kd.N_far (p := ⟨gb166, 1, none⟩) (Kd.N_far (p := ⟨gb166, 0, none⟩) (Kd.N_mono HO153.out (fun k_ hk => (⟨hk, hk.2⟩ : _ ∧ k_ ≠ gb166))) (fun _ hk => hk.2) (.slice Ao35 t159.length co35)) (fun _ hk => hk.2) (.slice Ao39 t162.length co39)) (fun _ h_ => h_.1))) (Kd.R_base ho41) hb); have n10_ := Aside0.mk (Kd.R_elder' (by (with_reducible repeat (first | apply Kd.R_alloc | apply Kd.R_drewN | apply Kd.R_drew)); exact (Kd.R_mono (Kd.R_far (p := ⟨gb166, 1, none⟩) (Kd.R_far (p := ⟨gb166, 0, none⟩) (Kd.R_types HO158.out BK166.out (by decide)) (fun _ hk => hk.2) (.slice Ao35 t159.length co35)) (fun _ hk => hk.2) (.slice Ao39 t162.length co39)) (fun _ h_ => h_.1))) (Kd.R_base ho41) hb); have n11_ := Aside0.mk (Kd.R_below (by (with_reducible repeat (first | apply Kd.R_alloc | apply Kd.R_drewN | apply Kd.R_drew)); exact (Kd.R_mono (Kd.R_far (p := ⟨gb166, 1, none⟩) (Kd.R_far (p := ⟨gb166, 0, none⟩) (Kd.R_types HO161.out BK166.out (by decide)) (fun _ hk => hk.2) (.slice Ao35 t159.length co35)) (fun _ hk => hk.2) (.slice Ao39 t162.length co39)) (fun _ h_ => h_.1))) hb); have n12_ := Aside0.mk (Kd.N_elder' (by (with_reducible repeat (first | apply Kd.N_alloc | apply Kd.N_drewN | apply Kd.N_drew)); exact (Kd.N_mono (Kd.N_far (p := ⟨gb166, 1, none⟩) (Kd.N_far (p := ⟨gb166, 0, none⟩) (Kd.N_mono HO164.out (fun k_ hk => (⟨hk, hk.2⟩ : _ ∧ k_ ≠ gb166))) (fun _ hk => hk.2) (.slice Ao35 t159.length co35)) (fun _ hk => hk.2) (.slice Ao39 t162.length co39)) (fun _ h_ => h_.1))) (Kd.R_base ho41) hb); have n13_ := Aside0.mk (Kd.R_lower (Kd.R_new' (Kd.R_new' (Kd.R_new' ho41 (Kd.R_lt (by (with_reducible repeat (first | apply Kd.R_alloc | apply Kd.R_drewN | apply Kd.R_drew)); exact (Kd.R_mono (Kd.R_far (p := ⟨gb166, 1, none⟩) (Kd.R_far (p := ⟨gb166, 0, none⟩) (Kd.R_types HO136.out BK166.out (by decide)) (fun _ hk => hk.2) (.slice Ao35 t159.length co35)) (fun _ hk => hk.2) (.slice Ao39 t162.length co39)) (fun _ h_ => h_.1))))) (Kd.R_lt (by (with_reducible repeat (first | apply Kd.R_alloc | apply Kd.R_drewN | apply Kd.R_drew)); exact (Kd.R_mono (Kd.R_far (p := ⟨gb166, 1, none⟩) (Kd.R_far (p := ⟨gb166, 0, none⟩) (Kd.R_types HO143.out BK166.out (by decide)) (fun _ hk => hk.2) (.slice Ao35 t159.length co35)) (fun _ hk => hk.2) (.slice Ao39 t162.length co39)) (fun _ h_ => h_.1))))) (Kd.R_lt (by (with_reducible repeat (first | apply Kd.R_alloc | apply Kd.R_drewN | apply Kd.R_drew)); exact (Kd.R_mono (Kd.R_far (p := ⟨gb166, 1, none⟩) (Kd.R_far (p := ⟨gb166, 0, none⟩) (Kd.R_types HO158.out BK166.out (by decide)) (fun _ hk => hk.2) (.slice Ao35 t159.length co35)) (fun _ hk => hk.2) (.slice Ao39 t162.length co39)) (fun _ h_ => h_.1))))) (below_size (by repeat (first | (with_reducible first | exact HB.out | apply below_alloc | apply pw_below_drewN | apply below_drew1 | refine below_set ?_ GE130.out | refine below_set ?_ GE155.out | refine below_set ?_ GE166.out) | exact HB.out)))); have n14_ := Aside0.mk (blk_below (g := gb130) (o := .cells #[.slice Ao10 t121.length co10, .slice Ao12 t124.length co12] 25 (0, 0)) (by (with_reducible repeat (first | refine blk_drewN ?_ _ | refine blk_drew ?_ | refine blk_alloc ?_ _)); refine blk_far ?_ NB130_166.out _; (with_reducible repeat (first | refine blk_drewN ?_ _ | refine blk_drew ?_ | refine blk_alloc ?_ _)); refine blk_far ?_ NB130_166.out _; (with_reducible repeat (first | refine blk_drewN ?_ _ | refine blk_drew ?_ | refine blk_alloc ?_ _)); exact BK130.out) hb); have n15_ := Aside0.mk (blk_below (g := gb155) (o := .cells #[.slice Ao25 t148.length co25, .slice Ao28 t151.length co28] 25 (0, 0)) (by (with_reducible repeat (first | refine blk_drewN ?_ _ | refine blk_drew ?_ | refine blk_alloc ?_ _)); refine blk_far ?_ NB155_166.out _; (with_reducible repeat (first | refine blk_drewN ?_ _ | refine blk_drew ?_ | refine blk_alloc ?_ _)); refine blk_far ?_ NB155_166.out _; (with_reducible repeat (first | refine blk_drewN ?_ _ | refine blk_drew ?_ | refine blk_alloc ?_ _)); exact BK155.out) hb); have n16_ := Aside0.mk (blk_below (g := gb166) (o := .cells #[.slice Ao35 t159.length co35, .slice Ao39 t162.length co39] 25 (0, 0)) (by (with_reducible repeat (first | refine blk_drewN ?_ _ | refine blk_drew ?_ | refine blk_alloc ?_ _)); refine blk_put (cs := #[.slice Ao35 t159.length co35, .slice none 0 0]) ?_ 1 _ rfl; (with_reducible repeat (first | refine blk_drewN ?_ _ | refine blk_drew ?_ | refine blk_alloc ?_ _)); refine blk_put (cs := #[.slice none 0 0, .slice none 0 0]) ?_ 0 _ rfl; (with_reducible repeat (first | refine blk_drewN ?_ _ | refine blk_drew ?_ | refine blk_alloc ?_ _)); exact BK166.out) hb); have n17_ := Aside0.mk (below_step (by repeat (first | (with_reducible first | exact HB.out | apply below_alloc | apply pw_below_drewN | apply below_drew1 | refine below_set ?_ GE130.out | refine below_set ?_ GE155.out | refine below_set ?_ GE166.out) | exact HB.out)) hb); clear HO123; clear HO126; clear HO129; clear HO133; clear HO136; clear HO139; clear HO143; clear HO146; clear HO150; clear HO153; clear HO158; clear HO161; clear HO164; clear BK130; clear BK155; clear BK166; clear HB; have HO123 := n0_; have HO126 := n1_; have HO129 := n2_; have HO133 := n3_; have HO136 := n4_; have HO139 := n5_; have HO143 := n6_; have HO146 := n7_; have HO150 := n8_; have HO153 := n9_; have HO158 := n10_; have HO161 := n11_; have HO164 := n12_; have HO169 := n13_; have BK130 := n14_; have BK155 := n15_; have BK166 := n16_; have HB := n17_; clear n0_ n1_ n2_ n3_ n4_ n5_ n6_ n7_ n8_ n9_ n10_ n11_ n12_ n13_ n14_ n15_ n16_ n17_; clear hb ho41; obtain ⟨Ao42, co42, eo42⟩ := Kd.R_slice HO169.out; subst eo42) | ((with_reducible refine gate_dst (N := 61) rfl ?_); (try (refine gate_guard (by rfl) ?_; dsimp only)); refine Kd.N_lit k49 _ 49 ?hg (N' := 61) ?hd (xs := ([(⟨false, y167⟩ : S49)] : List (S49))) (inner := [.bool false, .slice Ao42 y167.length co42]) (ok := (fun k_ => some k_ ≠ (.slice Ao10 t121.length co10 : Value).ownBlock ∧ some k_ ≠ (.slice Ao12 t124.length co12 : Value).ownBlock ∧ some k_ ≠ (.slice Ao16 t127.length co16 : Value).ownBlock ∧ some k_ ≠ (.slice Ao17 y131.length co17 : Value).ownBlock ∧ some k_ ≠ (.slice Ao22 t134.length co22 : Value).ownBlock ∧ some k_ ≠ (v138 : Value).ownBlock ∧ some k_ ≠ (v142 : Value).ownBlock ∧ some k_ ≠ (v145 : Value).ownBlock ∧ some k_ ≠ (.slice Ao25 t148.length co25 : Value).ownBlock ∧ some k_ ≠ (.slice Ao28 t151.length co28 : Value).ownBlock ∧ some k_ ≠ (.slice Ao32 y156.length co32 : Value).ownBlock ∧ some k_ ≠ (.slice Ao35 t159.length co35 : Value).ownBlock ∧ some k_ ≠ (.slice Ao39 t162.length co39 : Value).ownBlock ∧ k_ ≠ gb130 ∧ k_ ≠ gb155 ∧ k_ ≠ gb166)) (okp := (fun k_ => some k_ ≠ (.slice Ao10 t121.length co10 : Value).ownBlock ∧ some k_ ≠ (.slice Ao12 t124.length co12 : Value).ownBlock ∧ some k_ ≠ (.slice Ao16 t127.length co16 : Value).ownBlock ∧ some k_ ≠ (.slice Ao17 y131.length co17 : Value).ownBlock ∧ some k_ ≠ (.slice Ao22 t134.length co22 : Value).ownBlock ∧ some k_ ≠ (v138 : Value).ownBlock ∧ some k_ ≠ (v142 : Value).ownBlock ∧ some k_ ≠ (v145 : Value).ownBlock ∧ some k_ ≠ (.slice Ao25 t148.length co25 : Value).ownBlock ∧ some k_ ≠ (.slice Ao28 t151.length co28 : Value).ownBlock ∧ some k_ ≠ (.slice Ao32 y156.length co32 : Value).ownBlock ∧ some k_ ≠ (.slice Ao35 t159.length co35 : Value).ownBlock ∧ some k_ ≠ (.slice Ao39 t162.length co39 : Value).ownBlock ∧ k_ ≠ gb130 ∧ k_ ≠ gb155 ∧ k_ ≠ gb166)) ?hr ?hp (fun _ hk => hk) ((show ∀ k_, w40.heap.size ≤ k_ → (fun k_ => some k_ ≠ (.slice Ao10 t121.length co10 : Value).ownBlock ∧ some k_ ≠ (.slice Ao12 t124.length co12 : Value).ownBlock ∧ some k_ ≠ (.slice Ao16 t127.length co16 : Value).ownBlock ∧ some k_ ≠ (.slice Ao17 y131.length co17 : Value).ownBlock ∧ some k_ ≠ (.slice Ao22 t134.length co22 : Value).ownBlock ∧ some k_ ≠ (v138 : Value).ownBlock ∧ some k_ ≠ (v142 : Value).ownBlock ∧ some k_ ≠ (v145 : Value).ownBlock ∧ some k_ ≠ (.slice Ao25 t148.length co25 : Value).ownBlock ∧ some k_ ≠ (.slice Ao28 t151.length co28 : Value).ownBlock ∧ some k_ ≠ (.slice Ao32 y156.length co32 : Value).ownBlock ∧ some k_ ≠ (.slice Ao35 t159.length co35 : Value).ownBlock ∧ some k_ ≠ (.slice Ao39 t162.length co39 : Value).ownBlock ∧ k_ ≠ gb130 ∧ k_ ≠ gb155 ∧ k_ ≠ gb166) k_ from fun k_ hk => ⟨Kd.fresh' (Kd.R_lt (rr_ HO123)) k_ hk, Kd.fresh' (Kd.N_lt (by (with_reducible repeat (first | apply Kd.N_alloc | apply Kd.N_drewN | apply Kd.N_drew)); exact HO126.out)) k_ hk, Kd.fresh' (Kd.N_lt (by (with_reducible repeat (first | apply Kd.N_alloc | apply Kd.N_drewN | apply Kd.N_drew)); exact HO129.out)) k_ hk, Kd.fresh' (Kd.R_lt (rr_ HO133)) k_ hk, Kd.fresh' (Kd.R_lt (rr_ HO136)) k_ hk, Kd.fresh' (Kd.R_lt (rr_ HO139)) k_ hk, Kd.fresh' (Kd.R_lt (rr_ HO143)) k_ hk, Kd.fresh' (Kd.R_lt (rr_ HO146)) k_ hk, Kd.fresh' (Kd.R_lt (rr_ HO150)) k_ hk, Kd.fresh' (Kd.N_lt (by (with_reducible repeat (first | apply Kd.N_alloc | apply Kd.N_drewN | apply Kd.N_drew)); exact HO153.out)) k_ hk, Kd.fresh' (Kd.R_lt (rr_ HO158)) k_ hk, Kd.fresh' (Kd.R_lt (rr_ HO161)) k_ hk, Kd.fresh' (Kd.N_lt (by (with_reducible repeat (first | apply Kd.N_alloc | apply Kd.N_drewN | apply Kd.N_drew)); exact HO164.out)) k_ hk, Kd.freshB (g := gb130) (o := .cells #[.slice Ao10 t121.length co10, .slice Ao12 t124.length co12] 25 (0, 0)) (kk_ BK130) k_ hk, Kd.freshB (g := gb155) (o := .cells #[.slice Ao25 t148.length co25, .slice Ao28 t151.length co28] 25 (0, 0)) (kk_ BK155) k_ hk, Kd.freshB (g := gb166) (o := .cells #[.slice Ao35 t159.length co35, .slice Ao39 t162.length co39] 25 (0, 0)) (kk_ BK166) k_ hk⟩) _ (Nat.le_refl _)) (Below.refl _ _) (Nat.le_refl _) (by simp) ?_; (case hd => rfl); (case hg => rfl); (case hr => first | (go_simp; done) | (go_simp; rfl)); (case hp => exact (Reps.c2 (show Kd.FK k49 _ _ (⟨false, y167⟩ : S49) [.bool false, .slice Ao42 y167.length co42] from (k49_mkF _ _ (⟨false, y167⟩ : S49) (Kd.R_reads' (Kd.R_mono (ok' := (fun k_ => some k_ ≠ (.slice Ao10 t121.length co10 : Value).ownBlock ∧ some k_ ≠ (.slice Ao12 t124.length co12 : Value).ownBlock ∧ some k_ ≠ (.slice Ao16 t127.length co16 : Value).ownBlock ∧ some k_ ≠ (.slice Ao17 y131.length co17 : Value).ownBlock ∧ some k_ ≠ (.slice Ao22 t134.length co22 : Value).ownBlock ∧ some k_ ≠ (v138 : Value).ownBlock ∧ some k_ ≠ (v142 : Value).ownBlock ∧ some k_ ≠ (v145 : Value).ownBlock ∧ some k_ ≠ (.slice Ao25 t148.length co25 : Value).ownBlock ∧ some k_ ≠ (.slice Ao28 t151.length co28 : Value).ownBlock ∧ some k_ ≠ (.slice Ao32 y156.length co32 : Value).ownBlock ∧ some k_ ≠ (.slice Ao35 t159.length co35 : Value).ownBlock ∧ some k_ ≠ (.slice Ao39 t162.length co39 : Value).ownBlock ∧ k_ ≠ gb130 ∧ k_ ≠ gb155 ∧ k_ ≠ gb166)) (Kd.R_types (Kd.R_types (Kd.R_types (Kd.R_apart' (Kd.R_apart' (Kd.R_apart' (Kd.R_apart' (Kd.R_apart' (Kd.R_apart' (Kd.R_apart' (Kd.R_apart' (Kd.R_apart' (Kd.R_apart' (HO169.out) (Kd.R_typed HO123.out) (by decide)) (Kd.N_typed HO126.out) (by decide)) (Kd.N_typed HO129.out) (by decide)) (Kd.R_typed HO133.out) (by decide)) (Kd.R_typed HO139.out) (by decide)) (Kd.R_typed HO146.out) (by decide)) (Kd.R_typed HO150.out) (by decide)) (Kd.N_typed HO153.out) (by decide)) (Kd.R_typed HO161.out) (by decide)) (Kd.N_typed HO164.out) (by decide)) BK130.out (by decide)) BK155.out (by decide)) BK166.out (by decide)) (fun k_ hk => ⟨hk.1.1.1.1.1.1.1.1.1.1.1.1.2, ⟨hk.1.1.1.1.1.1.1.1.1.1.1.2, ⟨hk.1.1.1.1.1.1.1.1.1.1.2, ⟨hk.1.1.1.1.1.1.1.1.1.2, ⟨hk.1.1.1.1.1.1.1.1.1.1.1.1.1.1.1.2, ⟨hk.1.1.1.1.1.1.1.1.2, ⟨hk.1.1.1.1.1.1.1.1.1.1.1.1.1.1.2, ⟨hk.1.1.1.1.1.1.1.2, ⟨hk.1.1.1.1.1.1.2, ⟨hk.1.1.1.1.1.2, ⟨hk.1.1.1.1.1.1.1.1.1.1.1.1.1.2, ⟨hk.1.1.1.1.2, ⟨hk.1.1.1.2, ⟨hk.1.1.2, ⟨hk.1.2, hk.2⟩⟩⟩⟩⟩⟩⟩⟩⟩⟩⟩⟩⟩⟩⟩))).2.1 (Kd.R_F (Kd.R_mono (ok' := (fun k_ => some k_ ≠ (.slice Ao10 t121.length co10 : Value).ownBlock ∧ some k_ ≠ (.slice Ao12 t124.length co12 : Value).ownBlock ∧ some k_ ≠ (.slice Ao16 t127.length co16 : Value).ownBlock ∧ some k_ ≠ (.slice Ao17 y131.length co17 : Value).ownBlock ∧ some k_ ≠ (.slice Ao22 t134.length co22 : Value).ownBlock ∧ some k_ ≠ (v138 : Value).ownBlock ∧ some k_ ≠ (v142 : Value).ownBlock ∧ some k_ ≠ (v145 : Value).ownBlock ∧ some k_ ≠ (.slice Ao25 t148.length co25 : Value).ownBlock ∧ some k_ ≠ (.slice Ao28 t151.length co28 : Value).ownBlock ∧ some k_ ≠ (.slice Ao32 y156.length co32 : Value).ownBlock ∧ some k_ ≠ (.slice Ao35 t159.length co35 : Value).ownBlock ∧ some k_ ≠ (.slice Ao39 t162.length co39 : Value).ownBlock ∧ k_ ≠ gb130 ∧ k_ ≠ gb155 ∧ k_ ≠ gb166)) (Kd.R_types (Kd.R_types (Kd.R_types (Kd.R_apart' (Kd.R_apart' (Kd.R_apart' (Kd.R_apart' (Kd.R_apart' (Kd.R_apart' (Kd.R_apart' (Kd.R_apart' (Kd.R_apart' (Kd.R_apart' (HO169.out) (Kd.R_typed HO123.out) (by decide)) (Kd.N_typed HO126.out) (by decide)) (Kd.N_typed HO129.out) (by decide)) (Kd.R_typed HO133.out) (by decide)) (Kd.R_typed HO139.out) (by decide)) (Kd.R_typed HO146.out) (by decide)) (Kd.R_typed HO150.out) (by decide)) (Kd.N_typed HO153.out) (by decide)) (Kd.R_typed HO161.out) (by decide)) (Kd.N_typed HO164.out) (by decide)) BK130.out (by decide)) BK155.out (by decide)) BK166.out (by decide)) (fun k_ hk => ⟨hk.1.1.1.1.1.1.1.1.1.1.1.1.2, ⟨hk.1.1.1.1.1.1.1.1.1.1.1.2, ⟨hk.1.1.1.1.1.1.1.1.1.1.2, ⟨hk.1.1.1.1.1.1.1.1.1.2, ⟨hk.1.1.1.1.1.1.1.1.1.1.1.1.1.1.1.2, ⟨hk.1.1.1.1.1.1.1.1.2, ⟨hk.1.1.1.1.1.1.1.1.1.1.1.1.1.1.2, ⟨hk.1.1.1.1.1.1.1.2, ⟨hk.1.1.1.1.1.1.2, ⟨hk.1.1.1.1.1.2, ⟨hk.1.1.1.1.1.1.1.1.1.1.1.1.1.2, ⟨hk.1.1.1.1.2, ⟨hk.1.1.1.2, ⟨hk.1.1.2, ⟨hk.1.2, hk.2⟩⟩⟩⟩⟩⟩⟩⟩⟩⟩⟩⟩⟩⟩⟩))))) (Reps.none _ _))); intro v171 w43 ho44 hb hg_ hnew_; clear hg_ hnew_; (first | rw [← Ny170.out] at ho44 | (simp only [Int.reduceToNat] at ho44; rw [← Ny170.out] at ho44)); have n0_ := Aside0.mk (Kd.R_below (rr_ HO123) hb); have n1_ := Aside0.mk (Kd.N_elder' (by (with_reducible repeat (first | apply Kd.N_alloc | apply Kd.N_drewN | apply Kd.N_drew)); exact HO126.out) (Kd.N_base ho44) hb); have n2_ := Aside0.mk (Kd.N_elder' (by (with_reducible repeat (first | apply Kd.N_alloc | apply Kd.N_drewN | apply Kd.N_drew)); exact HO129.out) (Kd.N_base ho44) hb); have n3_ := Aside0.mk (Kd.R_below (rr_ HO133) hb); have n4_ := Aside0.mk (Kd.R_below (rr_ HO136) hb); have n5_ := Aside0.mk (Kd.R_below (rr_ HO139) hb); have n6_ := Aside0.mk (Kd.R_below (rr_ HO143) hb); have n7_ := Aside0.mk (Kd.R_below (rr_ HO146) hb); have n8_ := Aside0.mk (Kd.R_below (rr_ HO150) hb); have n9_ := Aside0.mk (Kd.N_elder' (by (with_reducible repeat (first | apply Kd.N_alloc | apply Kd.N_drewN | apply Kd.N_drew)); exact HO153.out) (Kd.N_base ho44) hb); have n10_ := Aside0.mk (Kd.R_below (rr_ HO158) hb); have n11_ := Aside0.mk (Kd.R_below (rr_ HO161) hb); have n12_ := Aside0.mk (Kd.N_elder' (by (with_reducible repeat (first | apply Kd.N_alloc | apply Kd.N_drewN | apply Kd.N_drew)); exact HO164.out) (Kd.N_base ho44) hb); have n13_ := Aside0.mk (Kd.N_lower ho44 (below_size (by repeat (first | (with_reducible first | exact HB.out | apply below_alloc | apply pw_below_drewN | apply below_drew1 | refine below_set ?_ GE130.out | refine below_set ?_ GE155.out | refine below_set ?_ GE166.out) | exact HB.out)))); have n14_ := Aside0.mk (blk_below (g := gb130) (o := .cells #[.slice Ao10 t121.length co10, .slice Ao12 t124.length co12] 25 (0, 0)) (kk_ BK130) hb); have n15_ := Aside0.mk (blk_below (g := gb155) (o := .cells #[.slice Ao25 t148.length co25, .slice Ao28 t151.length co28] 25 (0, 0)) (kk_ BK155) hb); have n16_ := Aside0.mk (blk_below (g := gb166) (o := .cells #[.slice Ao35 t159.length co35, .slice Ao39 t162.length co39] 25 (0, 0)) (kk_ BK166) hb); have n17_ := Aside0.mk (below_step (by repeat (first | (with_reducible first | exact HB.out | apply below_alloc | apply pw_below_drewN | apply below_drew1 | refine below_set ?_ GE130.out | refine below_set ?_ GE155.out | refine below_set ?_ GE166.out) | exact HB.out)) hb); clear HO123; clear HO126; clear HO129; clear HO133; clear HO136; clear HO139; clear HO143; clear HO146; clear HO150; clear HO153; clear HO158; clear HO161; clear HO164; clear BK130; clear BK155; clear BK166; clear HB; clear HO169; have HO123 := n0_; have HO126 := n1_; have HO129 := n2_; have HO133 := n3_; have HO136 := n4_; have HO139 := n5_; have HO143 := n6_; have HO146 := n7_; have HO150 := n8_; have HO153 := n9_; have HO158 := n10_; have HO161 := n11_; have HO164 := n12_; have HO172 := n13_; have BK130 := n14_; have BK155 := n15_; have BK166 := n16_; have HB := n17_; clear n0_ n1_ n2_ n3_ n4_ n5_ n6_ n7_ n8_ n9_ n10_ n11_ n12_ n13_ n14_ n15_ n16_ n17_; clear hb ho44; have hcz45_0 : w43.cell? ⟨gb130, 0, none⟩ = some (.slice Ao10 t121.length co10) := (blk_cell BK130.out 0).trans rfl; have hcz45_1 : w43.cell? ⟨gb130, 1, none⟩ = some (.slice Ao12 t124.length co12) := (blk_cell BK130.out 1).trans rfl; have hfz45_0 := blk_frozen BK130.out 0; have hfz45_1 := blk_frozen BK130.out 1; obtain ⟨Ao46, co46, eo46⟩ := Kd.N_slice HO172.out; subst eo46) | ((with_reducible refine gate_callee (f := 13) rfl ?_); refine gl_ (some 66) Try.func13 #[.agg #[.slice Ao10 t121.length co10, .slice Ao12 t124.length co12], .slice Ao46 y170.length co46, .int .i64 3, .slice Ao17 y131.length co17] ?_; (with_reducible refine (chain_Run.calls _ _ t121 _ _ t124 _ _ y170 3 _ _ y131 t173 t176 t179 _ ?side1 ?side2 ?side3 ?side4 ?side5 ?side6 ?side7 ?side8 A6.out).mono ?_); (case side1 => exact cc_ ((Kd.R_reads' HO123.out).2.2)); (case side2 => exact (Kd.R_reads' HO123.out).2.1); (case side3 => exact cc_ ((Kd.N_reads' HO126.out).2.2)); (case side4 => exact (Kd.N_reads' HO126.out).2.1); (case side5 => exact cc_ ((Kd.N_reads' HO172.out).2.2)); (case side6 => exact (Kd.N_reads' HO172.out).2.1); (case side7 => exact cc_ ((Kd.R_reads' HO133.out).2.2)); (case side8 => exact (Kd.R_reads' HO133.out).2.1); rintro e w47 ⟨v174, v177, rfl, ho0, ho1, hb⟩; refine ⟨_, rfl, ?_⟩; have n0_ := Aside0.mk (Kd.R_below (rr_ HO123) hb); have n1_ := Aside0.mk (Kd.N_mono (Kd.N_told (Kd.N_told (Kd.N_old (by (with_reducible repeat (first | apply Kd.N_alloc | apply Kd.N_drewN | apply Kd.N_drew)); exact HO126.out) hb) (Kd.R_base ho0)) (Kd.R_base ho1)) (fun _ h_ => h_.1)); have n2_ := Aside0.mk (Kd.N_mono (Kd.N_told (Kd.N_told (Kd.N_old (by (with_reducible repeat (first | apply Kd.N_alloc | apply Kd.N_drewN | apply Kd.N_drew)); exact HO129.out) hb) (Kd.R_base ho0)) (Kd.R_base ho1)) (fun _ h_ => h_.1)); have n3_ := Aside0.mk (Kd.R_below (rr_ HO133) hb); have n4_ := Aside0.mk (Kd.R_elder' (rr_ HO136) (Kd.R_base ho0) hb); have n5_ := Aside0.mk (Kd.R_elder' (rr_ HO139) (Kd.R_base ho1) hb); have n6_ := Aside0.mk (Kd.R_elder' (rr_ HO143) (Kd.R_base ho0) hb); have n7_ := Aside0.mk (Kd.R_elder' (rr_ HO146) (Kd.R_base ho1) hb); have n8_ := Aside0.mk (Kd.R_below (rr_ HO150) hb); have n9_ := Aside0.mk (Kd.N_mono (Kd.N_told (Kd.N_told (Kd.N_old (by (with_reducible repeat (first | apply Kd.N_alloc | apply Kd.N_drewN | apply Kd.N_drew)); exact HO153.out) hb) (Kd.R_base ho0)) (Kd.R_base ho1)) (fun _ h_ => h_.1)); have n10_ := Aside0.mk (Kd.R_elder' (rr_ HO158) (Kd.R_base ho0) hb); have n11_ := Aside0.mk (Kd.R_below (rr_ HO161) hb); have n12_ := Aside0.mk (Kd.N_mono (Kd.N_told (Kd.N_told (Kd.N_old (by (with_reducible repeat (first | apply Kd.N_alloc | apply Kd.N_drewN | apply Kd.N_drew)); exact HO164.out) hb) (Kd.R_base ho0)) (Kd.R_base ho1)) (fun _ h_ => h_.1)); have n13_ := Aside0.mk (Kd.N_mono (Kd.N_told (Kd.N_told (Kd.N_old (by (with_reducible repeat (first | apply Kd.N_alloc | apply Kd.N_drewN | apply Kd.N_drew)); exact HO172.out) hb) (Kd.R_base ho0)) (Kd.R_base ho1)) (fun _ h_ => h_.1)); have n14_ := Aside0.mk (Kd.R_lower (Kd.R_new' (Kd.R_new' (Kd.R_new' ho0 (Kd.R_lt (rr_ HO136))) (Kd.R_lt (rr_ HO143))) (Kd.R_lt (rr_ HO158))) (below_size (by repeat (first | (with_reducible first | exact HB.out | apply below_alloc | apply pw_below_drewN | apply below_drew1 | refine below_set ?_ GE130.out | refine below_set ?_ GE155.out | refine below_set ?_ GE166.out) | exact HB.out)))); have n15_ := Aside0.mk (Kd.R_lower (Kd.R_new' (Kd.R_new' ho1 (Kd.R_lt (rr_ HO139))) (Kd.R_lt (rr_ HO146))) (below_size (by repeat (first | (with_reducible first | exact HB.out | apply below_alloc | apply pw_below_drewN | apply below_drew1 | refine below_set ?_ GE130.out | refine below_set ?_ GE155.out | refine below_set ?_ GE166.out) | exact HB.out)))); have n16_ := Aside0.mk (blk_below (g := gb130) (o := .cells #[.slice Ao10 t121.length co10, .slice Ao12 t124.length co12] 25 (0, 0)) (kk_ BK130) hb); have n17_ := Aside0.mk (blk_below (g := gb155) (o := .cells #[.slice Ao25 t148.length co25, .slice Ao28 t151.length co28] 25 (0, 0)) (kk_ BK155) hb); have n18_ := Aside0.mk (blk_below (g := gb166) (o := .cells #[.slice Ao35 t159.length co35, .slice Ao39 t162.length co39] 25 (0, 0)) (kk_ BK166) hb); have n19_ := Aside0.mk (below_step (by repeat (first | (with_reducible first | exact HB.out | apply below_alloc | apply pw_below_drewN | apply below_drew1 | refine below_set ?_ GE130.out | refine below_set ?_ GE155.out | refine below_set ?_ GE166.out) | exact HB.out)) hb); clear HO123; clear HO126; clear HO129; clear HO133; clear HO136; clear HO139; clear HO143; clear HO146; clear HO150; clear HO153; clear HO158; clear HO161; clear HO164; clear HO172; clear BK130; clear BK155; clear BK166; clear HB; have HO123 := n0_; have HO126 := n1_; have HO129 := n2_; have HO133 := n3_; have HO136 := n4_; have HO139 := n5_; have HO143 := n6_; have HO146 := n7_; have HO150 := n8_; have HO153 := n9_; have HO158 := n10_; have HO161 := n11_; have HO164 := n12_; have HO172 := n13_; have HO175 := n14_; have HO178 := n15_; have BK130 := n16_; have BK155 := n17_; have BK166 := n18_; have HB := n19_; clear n0_ n1_ n2_ n3_ n4_ n5_ n6_ n7_ n8_ n9_ n10_ n11_ n12_ n13_ n14_ n15_ n16_ n17_ n18_ n19_; (try clear hb); (try clear hb2); (try clear hk); (try clear hi); (try clear ho0); (try clear ho1)))
 (try simp only [Act.put, sI_, s0_, sS_])
 go_cut [18] (fun v18 wc => ∃ (kq : Nat) (x18_6 : Bool), v18 = .bool x18_6 ∧ Aside0 (cohousinglaw26_head.j0 kq t127 t134 t137 t141 t144 t173 t176 x18_6 t148 t151 = some true) ∧ Aside0 (kq ≤ k) ∧ Aside0 (Kd.N k49 49 wc w.heap.size (fun k_ => some k_ ≠ ((.slice Ao22 t134.length co22) : Value).ownBlock ∧ some k_ ≠ (v138 : Value).ownBlock ∧ some k_ ≠ (v142 : Value).ownBlock ∧ some k_ ≠ (v145 : Value).ownBlock ∧ some k_ ≠ (v174 : Value).ownBlock ∧ some k_ ≠ (v177 : Value).ownBlock ∧ some k_ ≠ ((.slice Ao10 t121.length co10) : Value).ownBlock ∧ some k_ ≠ ((.slice Ao12 t124.length co12) : Value).ownBlock ∧ some k_ ≠ ((.slice Ao25 t148.length co25) : Value).ownBlock ∧ some k_ ≠ ((.slice Ao28 t151.length co28) : Value).ownBlock ∧ some k_ ≠ ((.slice Ao35 t159.length co35) : Value).ownBlock ∧ some k_ ≠ ((.slice Ao39 t162.length co39) : Value).ownBlock ∧ k_ ≠ gb130 ∧ k_ ≠ gb155 ∧ k_ ≠ gb166) (.slice Ao16 t127.length co16) t127) ∧ Aside0 (Kd.R k51 51 wc w.heap.size (fun k_ => some k_ ≠ (v142 : Value).ownBlock ∧ some k_ ≠ (v174 : Value).ownBlock) (.slice Ao22 t134.length co22) t134) ∧ Aside0 (Kd.R (Kd.int .i64) 3 wc w.heap.size (fun k_ => some k_ ≠ (v145 : Value).ownBlock ∧ some k_ ≠ (v177 : Value).ownBlock) v138 t137) ∧ Aside0 (Kd.R k51 51 wc w.heap.size (fun k_ => some k_ ≠ ((.slice Ao22 t134.length co22) : Value).ownBlock ∧ some k_ ≠ (v174 : Value).ownBlock) v142 t141) ∧ Aside0 (Kd.R (Kd.int .i64) 3 wc w.heap.size (fun k_ => some k_ ≠ (v138 : Value).ownBlock ∧ some k_ ≠ (v177 : Value).ownBlock) v145 t144) ∧ Aside0 (Kd.R k51 51 wc w.heap.size (fun k_ => some k_ ≠ ((.slice Ao22 t134.length co22) : Value).ownBlock ∧ some k_ ≠ (v142 : Value).ownBlock) v174 t173) ∧ Aside0 (Kd.R (Kd.int .i64) 3 wc w.heap.size (fun k_ => some k_ ≠ (v138 : Value).ownBlock ∧ some k_ ≠ (v145 : Value).ownBlock) v177 t176) ∧ Aside0 (Kd.R k84 84 wc w.heap.size (fun k_ => some k_ ≠ ((.slice Ao25 t148.length co25) : Value).ownBlock ∧ some k_ ≠ ((.slice Ao35 t159.length co35) : Value).ownBlock) (.slice Ao10 t121.length co10) t121) ∧ Aside0 (Kd.N k46 46 wc w.heap.size (fun k_ => some k_ ≠ ((.slice Ao16 t127.length co16) : Value).ownBlock ∧ some k_ ≠ ((.slice Ao22 t134.length co22) : Value).ownBlock ∧ some k_ ≠ (v138 : Value).ownBlock ∧ some k_ ≠ (v142 : Value).ownBlock ∧ some k_ ≠ (v145 : Value).ownBlock ∧ some k_ ≠ (v174 : Value).ownBlock ∧ some k_ ≠ (v177 : Value).ownBlock ∧ some k_ ≠ ((.slice Ao10 t121.length co10) : Value).ownBlock ∧ some k_ ≠ ((.slice Ao25 t148.length co25) : Value).ownBlock ∧ some k_ ≠ ((.slice Ao28 t151.length co28) : Value).ownBlock ∧ some k_ ≠ ((.slice Ao35 t159.length co35) : Value).ownBlock ∧ some k_ ≠ ((.slice Ao39 t162.length co39) : Value).ownBlock ∧ k_ ≠ gb130 ∧ k_ ≠ gb155 ∧ k_ ≠ gb166) (.slice Ao12 t124.length co12) t124) ∧ Aside0 (Kd.R k84 84 wc w.heap.size (fun k_ => some k_ ≠ ((.slice Ao10 t121.length co10) : Value).ownBlock ∧ some k_ ≠ ((.slice Ao35 t159.length co35) : Value).ownBlock) (.slice Ao25 t148.length co25) t148) ∧ Aside0 (Kd.N k46 46 wc w.heap.size (fun k_ => some k_ ≠ ((.slice Ao16 t127.length co16) : Value).ownBlock ∧ some k_ ≠ ((.slice Ao22 t134.length co22) : Value).ownBlock ∧ some k_ ≠ (v138 : Value).ownBlock ∧ some k_ ≠ (v142 : Value).ownBlock ∧ some k_ ≠ (v145 : Value).ownBlock ∧ some k_ ≠ (v174 : Value).ownBlock ∧ some k_ ≠ (v177 : Value).ownBlock ∧ some k_ ≠ ((.slice Ao10 t121.length co10) : Value).ownBlock ∧ some k_ ≠ ((.slice Ao12 t124.length co12) : Value).ownBlock ∧ some k_ ≠ ((.slice Ao25 t148.length co25) : Value).ownBlock ∧ some k_ ≠ ((.slice Ao35 t159.length co35) : Value).ownBlock ∧ some k_ ≠ ((.slice Ao39 t162.length co39) : Value).ownBlock ∧ k_ ≠ gb130 ∧ k_ ≠ gb155 ∧ k_ ≠ gb166) (.slice Ao28 t151.length co28) t151) ∧ Aside0 (Kd.R k84 84 wc w.heap.size (fun k_ => some k_ ≠ ((.slice Ao10 t121.length co10) : Value).ownBlock ∧ some k_ ≠ ((.slice Ao25 t148.length co25) : Value).ownBlock) (.slice Ao35 t159.length co35) t159) ∧ Aside0 (Kd.N k46 46 wc w.heap.size (fun k_ => some k_ ≠ ((.slice Ao16 t127.length co16) : Value).ownBlock ∧ some k_ ≠ ((.slice Ao22 t134.length co22) : Value).ownBlock ∧ some k_ ≠ (v138 : Value).ownBlock ∧ some k_ ≠ (v142 : Value).ownBlock ∧ some k_ ≠ (v145 : Value).ownBlock ∧ some k_ ≠ (v174 : Value).ownBlock ∧ some k_ ≠ (v177 : Value).ownBlock ∧ some k_ ≠ ((.slice Ao10 t121.length co10) : Value).ownBlock ∧ some k_ ≠ ((.slice Ao12 t124.length co12) : Value).ownBlock ∧ some k_ ≠ ((.slice Ao25 t148.length co25) : Value).ownBlock ∧ some k_ ≠ ((.slice Ao28 t151.length co28) : Value).ownBlock ∧ some k_ ≠ ((.slice Ao35 t159.length co35) : Value).ownBlock ∧ k_ ≠ gb130 ∧ k_ ≠ gb155 ∧ k_ ≠ gb166) (.slice Ao39 t162.length co39) t162) ∧ Aside0 (wc.heap[gb130]? = some (.cells #[(.slice Ao10 t121.length co10), (.slice Ao12 t124.length co12)] 25 (0, 0))) ∧ Aside0 (wc.heap[gb155]? = some (.cells #[(.slice Ao25 t148.length co25), (.slice Ao28 t151.length co28)] 25 (0, 0))) ∧ Aside0 (wc.heap[gb166]? = some (.cells #[(.slice Ao35 t159.length co35), (.slice Ao39 t162.length co39)] 25 (0, 0))) ∧ Aside0 (Below w.heap.size w wc))
 case first =>
  have H := HC7.out
  clear HC7
  by_cases c48 : t140 = 0
  ·rw [if_pos c48] at H
   have c48b0 : (t140 == 0) = true := beq_iff_eq.mpr c48
   have c48b1 : (t140 != 0) = false := bne_eq_false_iff_eq.mpr c48
   clear c48
   (first | rw [c48b0] | (simp only [i64_w, i32_w]; rw [c48b0]) | skip)
   by_cases c49 : t147 = 0
   ·rw [if_pos c49] at H
    have c49b0 : (t147 == 0) = true := beq_iff_eq.mpr c49
    have c49b1 : (t147 != 0) = false := bne_eq_false_iff_eq.mpr c49
    clear c49
    by_cases c50 : t154 = 0
    ·rw [if_pos c50] at H
     have c50b0 : (t154 == 0) = true := beq_iff_eq.mpr c50
     have c50b1 : (t154 != 0) = false := bne_eq_false_iff_eq.mpr c50
     clear c50
     by_cases c51 : t165 = 22
     ·rw [if_pos c51] at H
      have c51b0 : (t165 == 22) = true := beq_iff_eq.mpr c51
      have c51b1 : (t165 != 22) = false := bne_eq_false_iff_eq.mpr c51
      clear c51
      have H' := Aside0.mk H
      clear H
      go_wp2
      go_meet
      case rel => exact ⟨_, ((t179 == 0)), sd_, H', ⟨by first | omega | exact Nat.le_refl _⟩, ⟨by (with_reducible repeat (first | apply Kd.N_alloc | apply Kd.N_drewN | apply Kd.N_drew)); exact Kd.N_mono HO129.out (fun _ hk => ⟨hk.1.1.1.1.1.1.1.1.1.1.1.1.1.1.2, ⟨hk.1.1.1.1.1.1.1.1.1.1.1.1.1.2, ⟨hk.1.1.1.1.1.1.1.1.1.1.1.1.2, ⟨hk.1.1.1.1.1.1.1.1.1.1.1.2, ⟨hk.1.2, ⟨hk.2, ⟨hk.1.1.1.1.1.1.1.1.1.1.1.1.1.1.1.1.1.1, ⟨hk.1.1.1.1.1.1.1.1.1.1.1.1.1.1.1.1.1.2, ⟨hk.1.1.1.1.1.1.1.1.1.1.2, ⟨hk.1.1.1.1.1.1.1.1.1.2, ⟨hk.1.1.1.1.1.1.2, ⟨hk.1.1.1.1.1.2, ⟨hk.1.1.1.1.1.1.1.1.1.1.1.1.1.1.1.1.2, ⟨hk.1.1.1.1.1.1.1.1.2, hk.1.1.1.1.2⟩⟩⟩⟩⟩⟩⟩⟩⟩⟩⟩⟩⟩⟩)⟩, ⟨by (with_reducible repeat (first | apply Kd.R_alloc | apply Kd.R_drewN | apply Kd.R_drew)); exact Kd.R_mono HO136.out (fun _ hk => ⟨hk.1.1.1.2, hk.2⟩)⟩, ⟨by (with_reducible repeat (first | apply Kd.R_alloc | apply Kd.R_drewN | apply Kd.R_drew)); exact Kd.R_mono HO139.out (fun _ hk => ⟨hk.1.2, hk.2⟩)⟩, ⟨by (with_reducible repeat (first | apply Kd.R_alloc | apply Kd.R_drewN | apply Kd.R_drew)); exact Kd.R_mono HO143.out (fun _ hk => ⟨hk.1.1.1.2, hk.2⟩)⟩, ⟨by (with_reducible repeat (first | apply Kd.R_alloc | apply Kd.R_drewN | apply Kd.R_drew)); exact Kd.R_mono HO146.out (fun _ hk => ⟨hk.1.2, hk.2⟩)⟩, ⟨by (with_reducible repeat (first | apply Kd.R_alloc | apply Kd.R_drewN | apply Kd.R_drew)); exact Kd.R_mono HO175.out (fun _ hk => ⟨hk.1.1.2, hk.1.2⟩)⟩, ⟨by (with_reducible repeat (first | apply Kd.R_alloc | apply Kd.R_drewN | apply Kd.R_drew)); exact Kd.R_mono HO178.out (fun _ hk => ⟨hk.1.2, hk.2⟩)⟩, ⟨by (with_reducible repeat (first | apply Kd.R_alloc | apply Kd.R_drewN | apply Kd.R_drew)); exact Kd.R_mono HO123.out (fun _ hk => ⟨hk.1.2, hk.2⟩)⟩, ⟨by (with_reducible repeat (first | apply Kd.N_alloc | apply Kd.N_drewN | apply Kd.N_drew)); exact Kd.N_mono HO126.out (fun _ hk => ⟨hk.1.1.1.1.1.1.1.1.1.1.1.1.1.1.1.1.1.2, ⟨hk.1.1.1.1.1.1.1.1.1.1.1.1.1.1.2, ⟨hk.1.1.1.1.1.1.1.1.1.1.1.1.1.2, ⟨hk.1.1.1.1.1.1.1.1.1.1.1.1.2, ⟨hk.1.1.1.1.1.1.1.1.1.1.1.2, ⟨hk.1.2, ⟨hk.2, ⟨hk.1.1.1.1.1.1.1.1.1.1.1.1.1.1.1.1.1.1, ⟨hk.1.1.1.1.1.1.1.1.1.1.2, ⟨hk.1.1.1.1.1.1.1.1.1.2, ⟨hk.1.1.1.1.1.1.2, ⟨hk.1.1.1.1.1.2, ⟨hk.1.1.1.1.1.1.1.1.1.1.1.1.1.1.1.1.2, ⟨hk.1.1.1.1.1.1.1.1.2, hk.1.1.1.1.2⟩⟩⟩⟩⟩⟩⟩⟩⟩⟩⟩⟩⟩⟩)⟩, ⟨by (with_reducible repeat (first | apply Kd.R_alloc | apply Kd.R_drewN | apply Kd.R_drew)); exact Kd.R_mono HO150.out (fun _ hk => ⟨hk.1.2, hk.2⟩)⟩, ⟨by (with_reducible repeat (first | apply Kd.N_alloc | apply Kd.N_drewN | apply Kd.N_drew)); exact Kd.N_mono HO153.out (fun _ hk => ⟨hk.1.1.1.1.1.1.1.1.1.2.2.2.1, ⟨hk.1.1.1.1.1.1.1.1.1.2.2.2.2.2.1, ⟨hk.1.1.1.1.1.1.1.1.1.2.2.2.2.2.2.1, ⟨hk.1.1.1.1.1.1.1.1.1.2.2.2.2.2.2.2.1, ⟨hk.1.1.1.1.1.1.1.1.1.2.2.2.2.2.2.2.2.1, ⟨hk.1.2, ⟨hk.2, ⟨hk.1.1.1.1.1.1.1.1.1.2.1, ⟨hk.1.1.1.1.1.1.1.1.1.2.2.1, ⟨hk.1.1.1.1.1.1.1.1.1.1, ⟨hk.1.1.1.1.1.1.2, ⟨hk.1.1.1.1.1.2, ⟨hk.1.1.1.1.1.1.1.1.1.2.2.2.2.2.2.2.2.2, ⟨hk.1.1.1.1.1.1.1.1.2, hk.1.1.1.1.2⟩⟩⟩⟩⟩⟩⟩⟩⟩⟩⟩⟩⟩⟩)⟩, ⟨by (with_reducible repeat (first | apply Kd.R_alloc | apply Kd.R_drewN | apply Kd.R_drew)); exact Kd.R_mono HO161.out (fun _ hk => ⟨hk.1.2, hk.2⟩)⟩, ⟨by (with_reducible repeat (first | apply Kd.N_alloc | apply Kd.N_drewN | apply Kd.N_drew)); exact Kd.N_mono HO164.out (fun _ hk => ⟨hk.1.1.1.1.1.2.2.2.1, ⟨hk.1.1.1.1.1.2.2.2.2.2.1, ⟨hk.1.1.1.1.1.2.2.2.2.2.2.1, ⟨hk.1.1.1.1.1.2.2.2.2.2.2.2.1, ⟨hk.1.1.1.1.1.2.2.2.2.2.2.2.2.1, ⟨hk.1.2, ⟨hk.2, ⟨hk.1.1.1.1.1.2.1, ⟨hk.1.1.1.1.1.2.2.1, ⟨hk.1.1.1.1.1.2.2.2.2.2.2.2.2.2.1, ⟨hk.1.1.1.1.1.2.2.2.2.2.2.2.2.2.2.1, ⟨hk.1.1.1.1.1.1, ⟨hk.1.1.1.1.1.2.2.2.2.2.2.2.2.2.2.2.2.1, ⟨hk.1.1.1.1.1.2.2.2.2.2.2.2.2.2.2.2.2.2, hk.1.1.1.1.2⟩⟩⟩⟩⟩⟩⟩⟩⟩⟩⟩⟩⟩⟩)⟩, ⟨by (with_reducible repeat (first | refine blk_drewN ?_ _ | refine blk_drew ?_ | refine blk_alloc ?_ _)); exact BK130.out⟩, ⟨by (with_reducible repeat (first | refine blk_drewN ?_ _ | refine blk_drew ?_ | refine blk_alloc ?_ _)); exact BK155.out⟩, ⟨by (with_reducible repeat (first | refine blk_drewN ?_ _ | refine blk_drew ?_ | refine blk_alloc ?_ _)); exact BK166.out⟩, ⟨by repeat (first | (with_reducible first | exact HB.out | apply below_alloc | apply pw_below_drewN | apply below_drew1 | refine below_set ?_ GE130.out | refine below_set ?_ GE155.out | refine below_set ?_ GE166.out) | exact HB.out)⟩⟩
     ·rw [if_neg c51] at H
      have c51b0 : (t165 == 22) = false := beq_eq_false_iff_ne.mpr c51
      have c51b1 : (t165 != 22) = true := bne_iff_ne.mpr c51
      have H' := Aside0.mk H
      clear H
      go_wp2
      go_meet
      case rel => exact ⟨_, (false), sd_, H', ⟨by first | omega | exact Nat.le_refl _⟩, ⟨by (with_reducible repeat (first | apply Kd.N_alloc | apply Kd.N_drewN | apply Kd.N_drew)); exact Kd.N_mono HO129.out (fun _ hk => ⟨hk.1.1.1.1.1.1.1.1.1.1.1.1.1.1.2, ⟨hk.1.1.1.1.1.1.1.1.1.1.1.1.1.2, ⟨hk.1.1.1.1.1.1.1.1.1.1.1.1.2, ⟨hk.1.1.1.1.1.1.1.1.1.1.1.2, ⟨hk.1.2, ⟨hk.2, ⟨hk.1.1.1.1.1.1.1.1.1.1.1.1.1.1.1.1.1.1, ⟨hk.1.1.1.1.1.1.1.1.1.1.1.1.1.1.1.1.1.2, ⟨hk.1.1.1.1.1.1.1.1.1.1.2, ⟨hk.1.1.1.1.1.1.1.1.1.2, ⟨hk.1.1.1.1.1.1.2, ⟨hk.1.1.1.1.1.2, ⟨hk.1.1.1.1.1.1.1.1.1.1.1.1.1.1.1.1.2, ⟨hk.1.1.1.1.1.1.1.1.2, hk.1.1.1.1.2⟩⟩⟩⟩⟩⟩⟩⟩⟩⟩⟩⟩⟩⟩)⟩, ⟨by (with_reducible repeat (first | apply Kd.R_alloc | apply Kd.R_drewN | apply Kd.R_drew)); exact Kd.R_mono HO136.out (fun _ hk => ⟨hk.1.1.1.2, hk.2⟩)⟩, ⟨by (with_reducible repeat (first | apply Kd.R_alloc | apply Kd.R_drewN | apply Kd.R_drew)); exact Kd.R_mono HO139.out (fun _ hk => ⟨hk.1.2, hk.2⟩)⟩, ⟨by (with_reducible repeat (first | apply Kd.R_alloc | apply Kd.R_drewN | apply Kd.R_drew)); exact Kd.R_mono HO143.out (fun _ hk => ⟨hk.1.1.1.2, hk.2⟩)⟩, ⟨by (with_reducible repeat (first | apply Kd.R_alloc | apply Kd.R_drewN | apply Kd.R_drew)); exact Kd.R_mono HO146.out (fun _ hk => ⟨hk.1.2, hk.2⟩)⟩, ⟨by (with_reducible repeat (first | apply Kd.R_alloc | apply Kd.R_drewN | apply Kd.R_drew)); exact Kd.R_mono HO175.out (fun _ hk => ⟨hk.1.1.2, hk.1.2⟩)⟩, ⟨by (with_reducible repeat (first | apply Kd.R_alloc | apply Kd.R_drewN | apply Kd.R_drew)); exact Kd.R_mono HO178.out (fun _ hk => ⟨hk.1.2, hk.2⟩)⟩, ⟨by (with_reducible repeat (first | apply Kd.R_alloc | apply Kd.R_drewN | apply Kd.R_drew)); exact Kd.R_mono HO123.out (fun _ hk => ⟨hk.1.2, hk.2⟩)⟩, ⟨by (with_reducible repeat (first | apply Kd.N_alloc | apply Kd.N_drewN | apply Kd.N_drew)); exact Kd.N_mono HO126.out (fun _ hk => ⟨hk.1.1.1.1.1.1.1.1.1.1.1.1.1.1.1.1.1.2, ⟨hk.1.1.1.1.1.1.1.1.1.1.1.1.1.1.2, ⟨hk.1.1.1.1.1.1.1.1.1.1.1.1.1.2, ⟨hk.1.1.1.1.1.1.1.1.1.1.1.1.2, ⟨hk.1.1.1.1.1.1.1.1.1.1.1.2, ⟨hk.1.2, ⟨hk.2, ⟨hk.1.1.1.1.1.1.1.1.1.1.1.1.1.1.1.1.1.1, ⟨hk.1.1.1.1.1.1.1.1.1.1.2, ⟨hk.1.1.1.1.1.1.1.1.1.2, ⟨hk.1.1.1.1.1.1.2, ⟨hk.1.1.1.1.1.2, ⟨hk.1.1.1.1.1.1.1.1.1.1.1.1.1.1.1.1.2, ⟨hk.1.1.1.1.1.1.1.1.2, hk.1.1.1.1.2⟩⟩⟩⟩⟩⟩⟩⟩⟩⟩⟩⟩⟩⟩)⟩, ⟨by (with_reducible repeat (first | apply Kd.R_alloc | apply Kd.R_drewN | apply Kd.R_drew)); exact Kd.R_mono HO150.out (fun _ hk => ⟨hk.1.2, hk.2⟩)⟩, ⟨by (with_reducible repeat (first | apply Kd.N_alloc | apply Kd.N_drewN | apply Kd.N_drew)); exact Kd.N_mono HO153.out (fun _ hk => ⟨hk.1.1.1.1.1.1.1.1.1.2.2.2.1, ⟨hk.1.1.1.1.1.1.1.1.1.2.2.2.2.2.1, ⟨hk.1.1.1.1.1.1.1.1.1.2.2.2.2.2.2.1, ⟨hk.1.1.1.1.1.1.1.1.1.2.2.2.2.2.2.2.1, ⟨hk.1.1.1.1.1.1.1.1.1.2.2.2.2.2.2.2.2.1, ⟨hk.1.2, ⟨hk.2, ⟨hk.1.1.1.1.1.1.1.1.1.2.1, ⟨hk.1.1.1.1.1.1.1.1.1.2.2.1, ⟨hk.1.1.1.1.1.1.1.1.1.1, ⟨hk.1.1.1.1.1.1.2, ⟨hk.1.1.1.1.1.2, ⟨hk.1.1.1.1.1.1.1.1.1.2.2.2.2.2.2.2.2.2, ⟨hk.1.1.1.1.1.1.1.1.2, hk.1.1.1.1.2⟩⟩⟩⟩⟩⟩⟩⟩⟩⟩⟩⟩⟩⟩)⟩, ⟨by (with_reducible repeat (first | apply Kd.R_alloc | apply Kd.R_drewN | apply Kd.R_drew)); exact Kd.R_mono HO161.out (fun _ hk => ⟨hk.1.2, hk.2⟩)⟩, ⟨by (with_reducible repeat (first | apply Kd.N_alloc | apply Kd.N_drewN | apply Kd.N_drew)); exact Kd.N_mono HO164.out (fun _ hk => ⟨hk.1.1.1.1.1.2.2.2.1, ⟨hk.1.1.1.1.1.2.2.2.2.2.1, ⟨hk.1.1.1.1.1.2.2.2.2.2.2.1, ⟨hk.1.1.1.1.1.2.2.2.2.2.2.2.1, ⟨hk.1.1.1.1.1.2.2.2.2.2.2.2.2.1, ⟨hk.1.2, ⟨hk.2, ⟨hk.1.1.1.1.1.2.1, ⟨hk.1.1.1.1.1.2.2.1, ⟨hk.1.1.1.1.1.2.2.2.2.2.2.2.2.2.1, ⟨hk.1.1.1.1.1.2.2.2.2.2.2.2.2.2.2.1, ⟨hk.1.1.1.1.1.1, ⟨hk.1.1.1.1.1.2.2.2.2.2.2.2.2.2.2.2.2.1, ⟨hk.1.1.1.1.1.2.2.2.2.2.2.2.2.2.2.2.2.2, hk.1.1.1.1.2⟩⟩⟩⟩⟩⟩⟩⟩⟩⟩⟩⟩⟩⟩)⟩, ⟨by (with_reducible repeat (first | refine blk_drewN ?_ _ | refine blk_drew ?_ | refine blk_alloc ?_ _)); exact BK130.out⟩, ⟨by (with_reducible repeat (first | refine blk_drewN ?_ _ | refine blk_drew ?_ | refine blk_alloc ?_ _)); exact BK155.out⟩, ⟨by (with_reducible repeat (first | refine blk_drewN ?_ _ | refine blk_drew ?_ | refine blk_alloc ?_ _)); exact BK166.out⟩, ⟨by repeat (first | (with_reducible first | exact HB.out | apply below_alloc | apply pw_below_drewN | apply below_drew1 | refine below_set ?_ GE130.out | refine below_set ?_ GE155.out | refine below_set ?_ GE166.out) | exact HB.out)⟩⟩
    ·rw [if_neg c50] at H
     have c50b0 : (t154 == 0) = false := beq_eq_false_iff_ne.mpr c50
     have c50b1 : (t154 != 0) = true := bne_iff_ne.mpr c50
     have H' := Aside0.mk H
     clear H
     go_wp2
     go_meet
     case rel => exact ⟨_, (false), sd_, H', ⟨by first | omega | exact Nat.le_refl _⟩, ⟨by (with_reducible repeat (first | apply Kd.N_alloc | apply Kd.N_drewN | apply Kd.N_drew)); exact Kd.N_mono HO129.out (fun _ hk => ⟨hk.1.1.1.1.1.1.1.1.1.1.1.1.1.1.2, ⟨hk.1.1.1.1.1.1.1.1.1.1.1.1.1.2, ⟨hk.1.1.1.1.1.1.1.1.1.1.1.1.2, ⟨hk.1.1.1.1.1.1.1.1.1.1.1.2, ⟨hk.1.2, ⟨hk.2, ⟨hk.1.1.1.1.1.1.1.1.1.1.1.1.1.1.1.1.1.1, ⟨hk.1.1.1.1.1.1.1.1.1.1.1.1.1.1.1.1.1.2, ⟨hk.1.1.1.1.1.1.1.1.1.1.2, ⟨hk.1.1.1.1.1.1.1.1.1.2, ⟨hk.1.1.1.1.1.1.2, ⟨hk.1.1.1.1.1.2, ⟨hk.1.1.1.1.1.1.1.1.1.1.1.1.1.1.1.1.2, ⟨hk.1.1.1.1.1.1.1.1.2, hk.1.1.1.1.2⟩⟩⟩⟩⟩⟩⟩⟩⟩⟩⟩⟩⟩⟩)⟩, ⟨by (with_reducible repeat (first | apply Kd.R_alloc | apply Kd.R_drewN | apply Kd.R_drew)); exact Kd.R_mono HO136.out (fun _ hk => ⟨hk.1.1.1.2, hk.2⟩)⟩, ⟨by (with_reducible repeat (first | apply Kd.R_alloc | apply Kd.R_drewN | apply Kd.R_drew)); exact Kd.R_mono HO139.out (fun _ hk => ⟨hk.1.2, hk.2⟩)⟩, ⟨by (with_reducible repeat (first | apply Kd.R_alloc | apply Kd.R_drewN | apply Kd.R_drew)); exact Kd.R_mono HO143.out (fun _ hk => ⟨hk.1.1.1.2, hk.2⟩)⟩, ⟨by (with_reducible repeat (first | apply Kd.R_alloc | apply Kd.R_drewN | apply Kd.R_drew)); exact Kd.R_mono HO146.out (fun _ hk => ⟨hk.1.2, hk.2⟩)⟩, ⟨by (with_reducible repeat (first | apply Kd.R_alloc | apply Kd.R_drewN | apply Kd.R_drew)); exact Kd.R_mono HO175.out (fun _ hk => ⟨hk.1.1.2, hk.1.2⟩)⟩, ⟨by (with_reducible repeat (first | apply Kd.R_alloc | apply Kd.R_drewN | apply Kd.R_drew)); exact Kd.R_mono HO178.out (fun _ hk => ⟨hk.1.2, hk.2⟩)⟩, ⟨by (with_reducible repeat (first | apply Kd.R_alloc | apply Kd.R_drewN | apply Kd.R_drew)); exact Kd.R_mono HO123.out (fun _ hk => ⟨hk.1.2, hk.2⟩)⟩, ⟨by (with_reducible repeat (first | apply Kd.N_alloc | apply Kd.N_drewN | apply Kd.N_drew)); exact Kd.N_mono HO126.out (fun _ hk => ⟨hk.1.1.1.1.1.1.1.1.1.1.1.1.1.1.1.1.1.2, ⟨hk.1.1.1.1.1.1.1.1.1.1.1.1.1.1.2, ⟨hk.1.1.1.1.1.1.1.1.1.1.1.1.1.2, ⟨hk.1.1.1.1.1.1.1.1.1.1.1.1.2, ⟨hk.1.1.1.1.1.1.1.1.1.1.1.2, ⟨hk.1.2, ⟨hk.2, ⟨hk.1.1.1.1.1.1.1.1.1.1.1.1.1.1.1.1.1.1, ⟨hk.1.1.1.1.1.1.1.1.1.1.2, ⟨hk.1.1.1.1.1.1.1.1.1.2, ⟨hk.1.1.1.1.1.1.2, ⟨hk.1.1.1.1.1.2, ⟨hk.1.1.1.1.1.1.1.1.1.1.1.1.1.1.1.1.2, ⟨hk.1.1.1.1.1.1.1.1.2, hk.1.1.1.1.2⟩⟩⟩⟩⟩⟩⟩⟩⟩⟩⟩⟩⟩⟩)⟩, ⟨by (with_reducible repeat (first | apply Kd.R_alloc | apply Kd.R_drewN | apply Kd.R_drew)); exact Kd.R_mono HO150.out (fun _ hk => ⟨hk.1.2, hk.2⟩)⟩, ⟨by (with_reducible repeat (first | apply Kd.N_alloc | apply Kd.N_drewN | apply Kd.N_drew)); exact Kd.N_mono HO153.out (fun _ hk => ⟨hk.1.1.1.1.1.1.1.1.1.2.2.2.1, ⟨hk.1.1.1.1.1.1.1.1.1.2.2.2.2.2.1, ⟨hk.1.1.1.1.1.1.1.1.1.2.2.2.2.2.2.1, ⟨hk.1.1.1.1.1.1.1.1.1.2.2.2.2.2.2.2.1, ⟨hk.1.1.1.1.1.1.1.1.1.2.2.2.2.2.2.2.2.1, ⟨hk.1.2, ⟨hk.2, ⟨hk.1.1.1.1.1.1.1.1.1.2.1, ⟨hk.1.1.1.1.1.1.1.1.1.2.2.1, ⟨hk.1.1.1.1.1.1.1.1.1.1, ⟨hk.1.1.1.1.1.1.2, ⟨hk.1.1.1.1.1.2, ⟨hk.1.1.1.1.1.1.1.1.1.2.2.2.2.2.2.2.2.2, ⟨hk.1.1.1.1.1.1.1.1.2, hk.1.1.1.1.2⟩⟩⟩⟩⟩⟩⟩⟩⟩⟩⟩⟩⟩⟩)⟩, ⟨by (with_reducible repeat (first | apply Kd.R_alloc | apply Kd.R_drewN | apply Kd.R_drew)); exact Kd.R_mono HO161.out (fun _ hk => ⟨hk.1.2, hk.2⟩)⟩, ⟨by (with_reducible repeat (first | apply Kd.N_alloc | apply Kd.N_drewN | apply Kd.N_drew)); exact Kd.N_mono HO164.out (fun _ hk => ⟨hk.1.1.1.1.1.2.2.2.1, ⟨hk.1.1.1.1.1.2.2.2.2.2.1, ⟨hk.1.1.1.1.1.2.2.2.2.2.2.1, ⟨hk.1.1.1.1.1.2.2.2.2.2.2.2.1, ⟨hk.1.1.1.1.1.2.2.2.2.2.2.2.2.1, ⟨hk.1.2, ⟨hk.2, ⟨hk.1.1.1.1.1.2.1, ⟨hk.1.1.1.1.1.2.2.1, ⟨hk.1.1.1.1.1.2.2.2.2.2.2.2.2.2.1, ⟨hk.1.1.1.1.1.2.2.2.2.2.2.2.2.2.2.1, ⟨hk.1.1.1.1.1.1, ⟨hk.1.1.1.1.1.2.2.2.2.2.2.2.2.2.2.2.2.1, ⟨hk.1.1.1.1.1.2.2.2.2.2.2.2.2.2.2.2.2.2, hk.1.1.1.1.2⟩⟩⟩⟩⟩⟩⟩⟩⟩⟩⟩⟩⟩⟩)⟩, ⟨by (with_reducible repeat (first | refine blk_drewN ?_ _ | refine blk_drew ?_ | refine blk_alloc ?_ _)); exact BK130.out⟩, ⟨by (with_reducible repeat (first | refine blk_drewN ?_ _ | refine blk_drew ?_ | refine blk_alloc ?_ _)); exact BK155.out⟩, ⟨by (with_reducible repeat (first | refine blk_drewN ?_ _ | refine blk_drew ?_ | refine blk_alloc ?_ _)); exact BK166.out⟩, ⟨by repeat (first | (with_reducible first | exact HB.out | apply below_alloc | apply pw_below_drewN | apply below_drew1 | refine below_set ?_ GE130.out | refine below_set ?_ GE155.out | refine below_set ?_ GE166.out) | exact HB.out)⟩⟩
   ·rw [if_neg c49] at H
    have c49b0 : (t147 == 0) = false := beq_eq_false_iff_ne.mpr c49
    have c49b1 : (t147 != 0) = true := bne_iff_ne.mpr c49
    have H' := Aside0.mk H
    clear H
    go_wp2
    go_meet
    case rel => exact ⟨_, (false), sd_, H', ⟨by first | omega | exact Nat.le_refl _⟩, ⟨by (with_reducible repeat (first | apply Kd.N_alloc | apply Kd.N_drewN | apply Kd.N_drew)); exact Kd.N_mono HO129.out (fun _ hk => ⟨hk.1.1.1.1.1.1.1.1.1.1.1.1.1.1.2, ⟨hk.1.1.1.1.1.1.1.1.1.1.1.1.1.2, ⟨hk.1.1.1.1.1.1.1.1.1.1.1.1.2, ⟨hk.1.1.1.1.1.1.1.1.1.1.1.2, ⟨hk.1.2, ⟨hk.2, ⟨hk.1.1.1.1.1.1.1.1.1.1.1.1.1.1.1.1.1.1, ⟨hk.1.1.1.1.1.1.1.1.1.1.1.1.1.1.1.1.1.2, ⟨hk.1.1.1.1.1.1.1.1.1.1.2, ⟨hk.1.1.1.1.1.1.1.1.1.2, ⟨hk.1.1.1.1.1.1.2, ⟨hk.1.1.1.1.1.2, ⟨hk.1.1.1.1.1.1.1.1.1.1.1.1.1.1.1.1.2, ⟨hk.1.1.1.1.1.1.1.1.2, hk.1.1.1.1.2⟩⟩⟩⟩⟩⟩⟩⟩⟩⟩⟩⟩⟩⟩)⟩, ⟨by (with_reducible repeat (first | apply Kd.R_alloc | apply Kd.R_drewN | apply Kd.R_drew)); exact Kd.R_mono HO136.out (fun _ hk => ⟨hk.1.1.1.2, hk.2⟩)⟩, ⟨by (with_reducible repeat (first | apply Kd.R_alloc | apply Kd.R_drewN | apply Kd.R_drew)); exact Kd.R_mono HO139.out (fun _ hk => ⟨hk.1.2, hk.2⟩)⟩, ⟨by (with_reducible repeat (first | apply Kd.R_alloc | apply Kd.R_drewN | apply Kd.R_drew)); exact Kd.R_mono HO143.out (fun _ hk => ⟨hk.1.1.1.2, hk.2⟩)⟩, ⟨by (with_reducible repeat (first | apply Kd.R_alloc | apply Kd.R_drewN | apply Kd.R_drew)); exact Kd.R_mono HO146.out (fun _ hk => ⟨hk.1.2, hk.2⟩)⟩, ⟨by (with_reducible repeat (first | apply Kd.R_alloc | apply Kd.R_drewN | apply Kd.R_drew)); exact Kd.R_mono HO175.out (fun _ hk => ⟨hk.1.1.2, hk.1.2⟩)⟩, ⟨by (with_reducible repeat (first | apply Kd.R_alloc | apply Kd.R_drewN | apply Kd.R_drew)); exact Kd.R_mono HO178.out (fun _ hk => ⟨hk.1.2, hk.2⟩)⟩, ⟨by (with_reducible repeat (first | apply Kd.R_alloc | apply Kd.R_drewN | apply Kd.R_drew)); exact Kd.R_mono HO123.out (fun _ hk => ⟨hk.1.2, hk.2⟩)⟩, ⟨by (with_reducible repeat (first | apply Kd.N_alloc | apply Kd.N_drewN | apply Kd.N_drew)); exact Kd.N_mono HO126.out (fun _ hk => ⟨hk.1.1.1.1.1.1.1.1.1.1.1.1.1.1.1.1.1.2, ⟨hk.1.1.1.1.1.1.1.1.1.1.1.1.1.1.2, ⟨hk.1.1.1.1.1.1.1.1.1.1.1.1.1.2, ⟨hk.1.1.1.1.1.1.1.1.1.1.1.1.2, ⟨hk.1.1.1.1.1.1.1.1.1.1.1.2, ⟨hk.1.2, ⟨hk.2, ⟨hk.1.1.1.1.1.1.1.1.1.1.1.1.1.1.1.1.1.1, ⟨hk.1.1.1.1.1.1.1.1.1.1.2, ⟨hk.1.1.1.1.1.1.1.1.1.2, ⟨hk.1.1.1.1.1.1.2, ⟨hk.1.1.1.1.1.2, ⟨hk.1.1.1.1.1.1.1.1.1.1.1.1.1.1.1.1.2, ⟨hk.1.1.1.1.1.1.1.1.2, hk.1.1.1.1.2⟩⟩⟩⟩⟩⟩⟩⟩⟩⟩⟩⟩⟩⟩)⟩, ⟨by (with_reducible repeat (first | apply Kd.R_alloc | apply Kd.R_drewN | apply Kd.R_drew)); exact Kd.R_mono HO150.out (fun _ hk => ⟨hk.1.2, hk.2⟩)⟩, ⟨by (with_reducible repeat (first | apply Kd.N_alloc | apply Kd.N_drewN | apply Kd.N_drew)); exact Kd.N_mono HO153.out (fun _ hk => ⟨hk.1.1.1.1.1.1.1.1.1.2.2.2.1, ⟨hk.1.1.1.1.1.1.1.1.1.2.2.2.2.2.1, ⟨hk.1.1.1.1.1.1.1.1.1.2.2.2.2.2.2.1, ⟨hk.1.1.1.1.1.1.1.1.1.2.2.2.2.2.2.2.1, ⟨hk.1.1.1.1.1.1.1.1.1.2.2.2.2.2.2.2.2.1, ⟨hk.1.2, ⟨hk.2, ⟨hk.1.1.1.1.1.1.1.1.1.2.1, ⟨hk.1.1.1.1.1.1.1.1.1.2.2.1, ⟨hk.1.1.1.1.1.1.1.1.1.1, ⟨hk.1.1.1.1.1.1.2, ⟨hk.1.1.1.1.1.2, ⟨hk.1.1.1.1.1.1.1.1.1.2.2.2.2.2.2.2.2.2, ⟨hk.1.1.1.1.1.1.1.1.2, hk.1.1.1.1.2⟩⟩⟩⟩⟩⟩⟩⟩⟩⟩⟩⟩⟩⟩)⟩, ⟨by (with_reducible repeat (first | apply Kd.R_alloc | apply Kd.R_drewN | apply Kd.R_drew)); exact Kd.R_mono HO161.out (fun _ hk => ⟨hk.1.2, hk.2⟩)⟩, ⟨by (with_reducible repeat (first | apply Kd.N_alloc | apply Kd.N_drewN | apply Kd.N_drew)); exact Kd.N_mono HO164.out (fun _ hk => ⟨hk.1.1.1.1.1.2.2.2.1, ⟨hk.1.1.1.1.1.2.2.2.2.2.1, ⟨hk.1.1.1.1.1.2.2.2.2.2.2.1, ⟨hk.1.1.1.1.1.2.2.2.2.2.2.2.1, ⟨hk.1.1.1.1.1.2.2.2.2.2.2.2.2.1, ⟨hk.1.2, ⟨hk.2, ⟨hk.1.1.1.1.1.2.1, ⟨hk.1.1.1.1.1.2.2.1, ⟨hk.1.1.1.1.1.2.2.2.2.2.2.2.2.2.1, ⟨hk.1.1.1.1.1.2.2.2.2.2.2.2.2.2.2.1, ⟨hk.1.1.1.1.1.1, ⟨hk.1.1.1.1.1.2.2.2.2.2.2.2.2.2.2.2.2.1, ⟨hk.1.1.1.1.1.2.2.2.2.2.2.2.2.2.2.2.2.2, hk.1.1.1.1.2⟩⟩⟩⟩⟩⟩⟩⟩⟩⟩⟩⟩⟩⟩)⟩, ⟨by (with_reducible repeat (first | refine blk_drewN ?_ _ | refine blk_drew ?_ | refine blk_alloc ?_ _)); exact BK130.out⟩, ⟨by (with_reducible repeat (first | refine blk_drewN ?_ _ | refine blk_drew ?_ | refine blk_alloc ?_ _)); exact BK155.out⟩, ⟨by (with_reducible repeat (first | refine blk_drewN ?_ _ | refine blk_drew ?_ | refine blk_alloc ?_ _)); exact BK166.out⟩, ⟨by repeat (first | (with_reducible first | exact HB.out | apply below_alloc | apply pw_below_drewN | apply below_drew1 | refine below_set ?_ GE130.out | refine below_set ?_ GE155.out | refine below_set ?_ GE166.out) | exact HB.out)⟩⟩
  ·rw [if_neg c48] at H
   have c48b0 : (t140 == 0) = false := beq_eq_false_iff_ne.mpr c48
   have c48b1 : (t140 != 0) = true := bne_iff_ne.mpr c48
   (first | rw [c48b0] | (simp only [i64_w, i32_w]; rw [c48b0]) | skip)
   have H' := Aside0.mk H
   clear H
   go_wp2
   go_meet
   case rel => exact ⟨_, (false), sd_, H', ⟨by first | omega | exact Nat.le_refl _⟩, ⟨by (with_reducible repeat (first | apply Kd.N_alloc | apply Kd.N_drewN | apply Kd.N_drew)); exact Kd.N_mono HO129.out (fun _ hk => ⟨hk.1.1.1.1.1.1.1.1.1.1.1.1.1.1.2, ⟨hk.1.1.1.1.1.1.1.1.1.1.1.1.1.2, ⟨hk.1.1.1.1.1.1.1.1.1.1.1.1.2, ⟨hk.1.1.1.1.1.1.1.1.1.1.1.2, ⟨hk.1.2, ⟨hk.2, ⟨hk.1.1.1.1.1.1.1.1.1.1.1.1.1.1.1.1.1.1, ⟨hk.1.1.1.1.1.1.1.1.1.1.1.1.1.1.1.1.1.2, ⟨hk.1.1.1.1.1.1.1.1.1.1.2, ⟨hk.1.1.1.1.1.1.1.1.1.2, ⟨hk.1.1.1.1.1.1.2, ⟨hk.1.1.1.1.1.2, ⟨hk.1.1.1.1.1.1.1.1.1.1.1.1.1.1.1.1.2, ⟨hk.1.1.1.1.1.1.1.1.2, hk.1.1.1.1.2⟩⟩⟩⟩⟩⟩⟩⟩⟩⟩⟩⟩⟩⟩)⟩, ⟨by (with_reducible repeat (first | apply Kd.R_alloc | apply Kd.R_drewN | apply Kd.R_drew)); exact Kd.R_mono HO136.out (fun _ hk => ⟨hk.1.1.1.2, hk.2⟩)⟩, ⟨by (with_reducible repeat (first | apply Kd.R_alloc | apply Kd.R_drewN | apply Kd.R_drew)); exact Kd.R_mono HO139.out (fun _ hk => ⟨hk.1.2, hk.2⟩)⟩, ⟨by (with_reducible repeat (first | apply Kd.R_alloc | apply Kd.R_drewN | apply Kd.R_drew)); exact Kd.R_mono HO143.out (fun _ hk => ⟨hk.1.1.1.2, hk.2⟩)⟩, ⟨by (with_reducible repeat (first | apply Kd.R_alloc | apply Kd.R_drewN | apply Kd.R_drew)); exact Kd.R_mono HO146.out (fun _ hk => ⟨hk.1.2, hk.2⟩)⟩, ⟨by (with_reducible repeat (first | apply Kd.R_alloc | apply Kd.R_drewN | apply Kd.R_drew)); exact Kd.R_mono HO175.out (fun _ hk => ⟨hk.1.1.2, hk.1.2⟩)⟩, ⟨by (with_reducible repeat (first | apply Kd.R_alloc | apply Kd.R_drewN | apply Kd.R_drew)); exact Kd.R_mono HO178.out (fun _ hk => ⟨hk.1.2, hk.2⟩)⟩, ⟨by (with_reducible repeat (first | apply Kd.R_alloc | apply Kd.R_drewN | apply Kd.R_drew)); exact Kd.R_mono HO123.out (fun _ hk => ⟨hk.1.2, hk.2⟩)⟩, ⟨by (with_reducible repeat (first | apply Kd.N_alloc | apply Kd.N_drewN | apply Kd.N_drew)); exact Kd.N_mono HO126.out (fun _ hk => ⟨hk.1.1.1.1.1.1.1.1.1.1.1.1.1.1.1.1.1.2, ⟨hk.1.1.1.1.1.1.1.1.1.1.1.1.1.1.2, ⟨hk.1.1.1.1.1.1.1.1.1.1.1.1.1.2, ⟨hk.1.1.1.1.1.1.1.1.1.1.1.1.2, ⟨hk.1.1.1.1.1.1.1.1.1.1.1.2, ⟨hk.1.2, ⟨hk.2, ⟨hk.1.1.1.1.1.1.1.1.1.1.1.1.1.1.1.1.1.1, ⟨hk.1.1.1.1.1.1.1.1.1.1.2, ⟨hk.1.1.1.1.1.1.1.1.1.2, ⟨hk.1.1.1.1.1.1.2, ⟨hk.1.1.1.1.1.2, ⟨hk.1.1.1.1.1.1.1.1.1.1.1.1.1.1.1.1.2, ⟨hk.1.1.1.1.1.1.1.1.2, hk.1.1.1.1.2⟩⟩⟩⟩⟩⟩⟩⟩⟩⟩⟩⟩⟩⟩)⟩, ⟨by (with_reducible repeat (first | apply Kd.R_alloc | apply Kd.R_drewN | apply Kd.R_drew)); exact Kd.R_mono HO150.out (fun _ hk => ⟨hk.1.2, hk.2⟩)⟩, ⟨by (with_reducible repeat (first | apply Kd.N_alloc | apply Kd.N_drewN | apply Kd.N_drew)); exact Kd.N_mono HO153.out (fun _ hk => ⟨hk.1.1.1.1.1.1.1.1.1.2.2.2.1, ⟨hk.1.1.1.1.1.1.1.1.1.2.2.2.2.2.1, ⟨hk.1.1.1.1.1.1.1.1.1.2.2.2.2.2.2.1, ⟨hk.1.1.1.1.1.1.1.1.1.2.2.2.2.2.2.2.1, ⟨hk.1.1.1.1.1.1.1.1.1.2.2.2.2.2.2.2.2.1, ⟨hk.1.2, ⟨hk.2, ⟨hk.1.1.1.1.1.1.1.1.1.2.1, ⟨hk.1.1.1.1.1.1.1.1.1.2.2.1, ⟨hk.1.1.1.1.1.1.1.1.1.1, ⟨hk.1.1.1.1.1.1.2, ⟨hk.1.1.1.1.1.2, ⟨hk.1.1.1.1.1.1.1.1.1.2.2.2.2.2.2.2.2.2, ⟨hk.1.1.1.1.1.1.1.1.2, hk.1.1.1.1.2⟩⟩⟩⟩⟩⟩⟩⟩⟩⟩⟩⟩⟩⟩)⟩, ⟨by (with_reducible repeat (first | apply Kd.R_alloc | apply Kd.R_drewN | apply Kd.R_drew)); exact Kd.R_mono HO161.out (fun _ hk => ⟨hk.1.2, hk.2⟩)⟩, ⟨by (with_reducible repeat (first | apply Kd.N_alloc | apply Kd.N_drewN | apply Kd.N_drew)); exact Kd.N_mono HO164.out (fun _ hk => ⟨hk.1.1.1.1.1.2.2.2.1, ⟨hk.1.1.1.1.1.2.2.2.2.2.1, ⟨hk.1.1.1.1.1.2.2.2.2.2.2.1, ⟨hk.1.1.1.1.1.2.2.2.2.2.2.2.1, ⟨hk.1.1.1.1.1.2.2.2.2.2.2.2.2.1, ⟨hk.1.2, ⟨hk.2, ⟨hk.1.1.1.1.1.2.1, ⟨hk.1.1.1.1.1.2.2.1, ⟨hk.1.1.1.1.1.2.2.2.2.2.2.2.2.2.1, ⟨hk.1.1.1.1.1.2.2.2.2.2.2.2.2.2.2.1, ⟨hk.1.1.1.1.1.1, ⟨hk.1.1.1.1.1.2.2.2.2.2.2.2.2.2.2.2.2.1, ⟨hk.1.1.1.1.1.2.2.2.2.2.2.2.2.2.2.2.2.2, hk.1.1.1.1.2⟩⟩⟩⟩⟩⟩⟩⟩⟩⟩⟩⟩⟩⟩)⟩, ⟨by (with_reducible repeat (first | refine blk_drewN ?_ _ | refine blk_drew ?_ | refine blk_alloc ?_ _)); exact BK130.out⟩, ⟨by (with_reducible repeat (first | refine blk_drewN ?_ _ | refine blk_drew ?_ | refine blk_alloc ?_ _)); exact BK155.out⟩, ⟨by (with_reducible repeat (first | refine blk_drewN ?_ _ | refine blk_drew ?_ | refine blk_alloc ?_ _)); exact BK166.out⟩, ⟨by repeat (first | (with_reducible first | exact HB.out | apply below_alloc | apply pw_below_drewN | apply below_drew1 | refine below_set ?_ GE130.out | refine below_set ?_ GE155.out | refine below_set ?_ GE166.out) | exact HB.out)⟩⟩
 case rest =>
  clear HC7
  try clear c1
  try clear c2
  try clear p2
  try clear c3
  try clear c4
  try clear c5
  try clear c10
  try clear c13
  try clear c15
  try clear c26
  try clear c29
  try clear c36
  try clear c37
  try clear c48
  try clear c48b0
  try clear c48b1
  try clear c49
  try clear c49b0
  try clear c49b1
  try clear c50
  try clear c50b0
  try clear c50b1
  try clear c51
  try clear c51b0
  try clear c51b1
  try clear hcz11_0
  try clear hcz11_1
  try clear hcz15_0
  try clear hcz15_1
  try clear hcz19_0
  try clear hcz19_1
  try clear hcz21_0
  try clear hcz21_1
  try clear hcz27_0
  try clear hcz27_1
  try clear hcz29_0
  try clear hcz29_1
  try clear hcz38_0
  try clear hcz38_1
  try clear hcz45_0
  try clear hcz45_1
  try clear hfz11_0
  try clear hfz11_1
  try clear hfz15_0
  try clear hfz15_1
  try clear hfz19_0
  try clear hfz19_1
  try clear hfz21_0
  try clear hfz21_1
  try clear hfz27_0
  try clear hfz27_1
  try clear hfz29_0
  try clear hfz29_1
  try clear hfz38_0
  try clear hfz38_1
  try clear hfz45_0
  try clear hfz45_1
  obtain ⟨kq, x18_6, rfl, HA, HJ6, HO_2, HO_4, HO_5, HO_7, HO_8, HO_15, HO_16, HO_131000, HO_131001, HO_156000, HO_156001, HO_167000, HO_167001, BK130, BK155, BK166, HB⟩ := hcut
  cases kq with
  | zero => exact absurd HA.out (by simp [cohousinglaw26_head.j0])
  | succ kj6 =>
   have H := HA.out
   clear HA
   simp only [cohousinglaw26_head.j0] at H
   by_cases c52 : x18_6 = true
   ·subst c52
    have H1 : ((cohousingref26_SameMoves.f kj6 t134 (([(⟨5, 1, 3⟩ : S51)] : List (S51)))).bind fun t183 => (if t183 = true then ((cohousingref23_SameInts.f kj6 t137 (([0] : List Int))).bind fun t187 => (if t187 = true then (if 0 < (t127.length : Int) then ((cohousingref26_SameMoves.f kj6 t141 ((rd_T49 t127 0).f1)).bind fun t189 => (if t189 = true then (if (t144.length : Int) = 0 then (if (t151.length : Int) = 3 then (if 0 < (t151.length : Int) then (if ((rd_T46 t151 0).f1) = 3 then (if 1 < (t151.length : Int) then (if ((rd_T46 t151 1).f1) = 2 then (if (t173.length : Int) = 0 then ((cohousingref23_SameInts.f kj6 t176 (([0] : List Int))).bind fun t195 => (some t195)) else (some false)) else (some false)) else (none)) else (some false)) else (none)) else (some false)) else (some false)) else (some false))) else (none)) else (some false))) else (some false))) = some true := by rw [if_pos rfl] at H; exact H
    clear H
    have H := H1
    clear H1
    obtain ⟨y180, hy180⟩ : ∃ y_ : List (S51), y_ = (([(⟨5, 1, 3⟩ : S51)] : List (S51))) := ⟨_, rfl⟩
    replace H : ((cohousingref26_SameMoves.f kj6 t134 y180).bind fun t183 => (if t183 = true then ((cohousingref23_SameInts.f kj6 t137 (([0] : List Int))).bind fun t187 => (if t187 = true then (if 0 < (t127.length : Int) then ((cohousingref26_SameMoves.f kj6 t141 ((rd_T49 t127 0).f1)).bind fun t189 => (if t189 = true then (if (t144.length : Int) = 0 then (if (t151.length : Int) = 3 then (if 0 < (t151.length : Int) then (if ((rd_T46 t151 0).f1) = 3 then (if 1 < (t151.length : Int) then (if ((rd_T46 t151 1).f1) = 2 then (if (t173.length : Int) = 0 then ((cohousingref23_SameInts.f kj6 t176 (([0] : List Int))).bind fun t195 => (some t195)) else (some false)) else (some false)) else (none)) else (some false)) else (none)) else (some false)) else (some false)) else (some false))) else (none)) else (some false))) else (some false))) = some true := by first | (rw [hy180]; with_reducible exact H) | (have H2_ := (Option.bind_some _ _).symm.trans H; rw [hy180]; with_reducible exact H2_) | (have H2_ := (Option.bind_some _ _).symm.trans H; with_reducible exact H2_) | with_reducible exact H | (rw [hy180]; exact H) | exact H
    have Ny180 := Aside0.mk hy180
    clear hy180
    replace H := Option.bind_eq_some_iff.mp H
    obtain ⟨t183, A530, H⟩ := H
    replace H : (if t183 = true then ((cohousingref23_SameInts.f kj6 t137 (([0] : List Int))).bind fun t187 => (if t187 = true then (if 0 < (t127.length : Int) then ((cohousingref26_SameMoves.f kj6 t141 ((rd_T49 t127 0).f1)).bind fun t189 => (if t189 = true then (if (t144.length : Int) = 0 then (if (t151.length : Int) = 3 then (if 0 < (t151.length : Int) then (if ((rd_T46 t151 0).f1) = 3 then (if 1 < (t151.length : Int) then (if ((rd_T46 t151 1).f1) = 2 then (if (t173.length : Int) = 0 then ((cohousingref23_SameInts.f kj6 t176 (([0] : List Int))).bind fun t195 => (some t195)) else (some false)) else (some false)) else (none)) else (some false)) else (none)) else (some false)) else (some false)) else (some false))) else (none)) else (some false))) else (some false)) = some true := H
    have A53 := Aside0.mk A530
    clear A530
    by_cases c54 : t183 = true
    ·subst c54
     have H1 : ((cohousingref23_SameInts.f kj6 t137 (([0] : List Int))).bind fun t187 => (if t187 = true then (if 0 < (t127.length : Int) then ((cohousingref26_SameMoves.f kj6 t141 ((rd_T49 t127 0).f1)).bind fun t189 => (if t189 = true then (if (t144.length : Int) = 0 then (if (t151.length : Int) = 3 then (if 0 < (t151.length : Int) then (if ((rd_T46 t151 0).f1) = 3 then (if 1 < (t151.length : Int) then (if ((rd_T46 t151 1).f1) = 2 then (if (t173.length : Int) = 0 then ((cohousingref23_SameInts.f kj6 t176 (([0] : List Int))).bind fun t195 => (some t195)) else (some false)) else (some false)) else (none)) else (some false)) else (none)) else (some false)) else (some false)) else (some false))) else (none)) else (some false))) = some true := by rw [if_pos rfl] at H; exact H
     clear H
     have H := H1
     clear H1
     obtain ⟨y184, hy184⟩ : ∃ y_ : List Int, y_ = (([0] : List Int)) := ⟨_, rfl⟩
     replace H : ((cohousingref23_SameInts.f kj6 t137 y184).bind fun t187 => (if t187 = true then (if 0 < (t127.length : Int) then ((cohousingref26_SameMoves.f kj6 t141 ((rd_T49 t127 0).f1)).bind fun t189 => (if t189 = true then (if (t144.length : Int) = 0 then (if (t151.length : Int) = 3 then (if 0 < (t151.length : Int) then (if ((rd_T46 t151 0).f1) = 3 then (if 1 < (t151.length : Int) then (if ((rd_T46 t151 1).f1) = 2 then (if (t173.length : Int) = 0 then ((cohousingref23_SameInts.f kj6 t176 (([0] : List Int))).bind fun t195 => (some t195)) else (some false)) else (some false)) else (none)) else (some false)) else (none)) else (some false)) else (some false)) else (some false))) else (none)) else (some false))) = some true := by first | (rw [hy184]; with_reducible exact H) | (have H2_ := (Option.bind_some _ _).symm.trans H; rw [hy184]; with_reducible exact H2_) | (have H2_ := (Option.bind_some _ _).symm.trans H; with_reducible exact H2_) | with_reducible exact H | (rw [hy184]; exact H) | exact H
     have Ny184 := Aside0.mk hy184
     clear hy184
     replace H := Option.bind_eq_some_iff.mp H
     obtain ⟨t187, A550, H⟩ := H
     replace H : (if t187 = true then (if 0 < (t127.length : Int) then ((cohousingref26_SameMoves.f kj6 t141 ((rd_T49 t127 0).f1)).bind fun t189 => (if t189 = true then (if (t144.length : Int) = 0 then (if (t151.length : Int) = 3 then (if 0 < (t151.length : Int) then (if ((rd_T46 t151 0).f1) = 3 then (if 1 < (t151.length : Int) then (if ((rd_T46 t151 1).f1) = 2 then (if (t173.length : Int) = 0 then ((cohousingref23_SameInts.f kj6 t176 (([0] : List Int))).bind fun t195 => (some t195)) else (some false)) else (some false)) else (none)) else (some false)) else (none)) else (some false)) else (some false)) else (some false))) else (none)) else (some false)) = some true := H
     have A55 := Aside0.mk A550
     clear A550
     by_cases c56 : t187 = true
     ·subst c56
      have H1 : (if 0 < (t127.length : Int) then ((cohousingref26_SameMoves.f kj6 t141 ((rd_T49 t127 0).f1)).bind fun t189 => (if t189 = true then (if (t144.length : Int) = 0 then (if (t151.length : Int) = 3 then (if 0 < (t151.length : Int) then (if ((rd_T46 t151 0).f1) = 3 then (if 1 < (t151.length : Int) then (if ((rd_T46 t151 1).f1) = 2 then (if (t173.length : Int) = 0 then ((cohousingref23_SameInts.f kj6 t176 (([0] : List Int))).bind fun t195 => (some t195)) else (some false)) else (some false)) else (none)) else (some false)) else (none)) else (some false)) else (some false)) else (some false))) else (none)) = some true := by rw [if_pos rfl] at H; exact H
      clear H
      have H := H1
      clear H1
      by_cases c57 : 0 < (t127.length : Int)
      ·rw [if_pos c57] at H
       have c57b0 : decide (0 < (t127.length : Int)) = true := decide_eq_true c57
       have c57b1 : decide (0 < t127.length) = true := decide_eq_true (by omega)
       clear c57
       replace H := Option.bind_eq_some_iff.mp H
       obtain ⟨t189, A580, H⟩ := H
       replace H : (if t189 = true then (if (t144.length : Int) = 0 then (if (t151.length : Int) = 3 then (if 0 < (t151.length : Int) then (if ((rd_T46 t151 0).f1) = 3 then (if 1 < (t151.length : Int) then (if ((rd_T46 t151 1).f1) = 2 then (if (t173.length : Int) = 0 then ((cohousingref23_SameInts.f kj6 t176 (([0] : List Int))).bind fun t195 => (some t195)) else (some false)) else (some false)) else (none)) else (some false)) else (none)) else (some false)) else (some false)) else (some false)) = some true := H
       have A58 := Aside0.mk A580
       clear A580
       by_cases c59 : t189 = true
       ·subst c59
        have H1 : (if (t144.length : Int) = 0 then (if (t151.length : Int) = 3 then (if 0 < (t151.length : Int) then (if ((rd_T46 t151 0).f1) = 3 then (if 1 < (t151.length : Int) then (if ((rd_T46 t151 1).f1) = 2 then (if (t173.length : Int) = 0 then ((cohousingref23_SameInts.f kj6 t176 (([0] : List Int))).bind fun t195 => (some t195)) else (some false)) else (some false)) else (none)) else (some false)) else (none)) else (some false)) else (some false)) = some true := by rw [if_pos rfl] at H; exact H
        clear H
        have H := H1
        clear H1
        by_cases c60 : (t144.length : Int) = 0
        ·rw [if_pos c60] at H
         have c60b0 : ((t144.length : Int) == 0) = true := beq_iff_eq.mpr c60
         have c60b1 : ((t144.length : Int) != 0) = false := bne_eq_false_iff_eq.mpr c60
         clear c60
         by_cases c61 : (t151.length : Int) = 3
         ·rw [if_pos c61] at H
          have c61b0 : ((t151.length : Int) == 3) = true := beq_iff_eq.mpr c61
          have c61b1 : ((t151.length : Int) != 3) = false := bne_eq_false_iff_eq.mpr c61
          clear c61
          by_cases c62 : 0 < (t151.length : Int)
          ·rw [if_pos c62] at H
           have c62b0 : decide (0 < (t151.length : Int)) = true := decide_eq_true c62
           have c62b1 : decide (0 < t151.length) = true := decide_eq_true (by omega)
           clear c62
           by_cases c63 : ((rd_T46 t151 0).f1) = 3
           ·rw [if_pos c63] at H
            have c63b0 : (((rd_T46 t151 0).f1) == 3) = true := beq_iff_eq.mpr c63
            have c63b1 : (((rd_T46 t151 0).f1) != 3) = false := bne_eq_false_iff_eq.mpr c63
            clear c63
            by_cases c64 : 1 < (t151.length : Int)
            ·rw [if_pos c64] at H
             have c64b0 : decide (1 < (t151.length : Int)) = true := decide_eq_true c64
             have c64b1 : decide (1 < t151.length) = true := decide_eq_true (by omega)
             clear c64
             by_cases c65 : ((rd_T46 t151 1).f1) = 2
             ·rw [if_pos c65] at H
              have c65b0 : (((rd_T46 t151 1).f1) == 2) = true := beq_iff_eq.mpr c65
              have c65b1 : (((rd_T46 t151 1).f1) != 2) = false := bne_eq_false_iff_eq.mpr c65
              clear c65
              by_cases c66 : (t173.length : Int) = 0
              ·rw [if_pos c66] at H
               have c66b0 : ((t173.length : Int) == 0) = true := beq_iff_eq.mpr c66
               have c66b1 : ((t173.length : Int) != 0) = false := bne_eq_false_iff_eq.mpr c66
               clear c66
               obtain ⟨y192, hy192⟩ : ∃ y_ : List Int, y_ = (([0] : List Int)) := ⟨_, rfl⟩
               replace H : ((cohousingref23_SameInts.f kj6 t176 y192).bind fun t195 => (some t195)) = some true := by first | (rw [hy192]; with_reducible exact H) | (have H2_ := (Option.bind_some _ _).symm.trans H; rw [hy192]; with_reducible exact H2_) | (have H2_ := (Option.bind_some _ _).symm.trans H; with_reducible exact H2_) | with_reducible exact H | (rw [hy192]; exact H) | exact H
               have Ny192 := Aside0.mk hy192
               clear hy192
               replace H := Option.bind_eq_some_iff.mp H
               obtain ⟨t195, A670, H⟩ := H
               replace H : (some t195) = some true := H
               have A67 := Aside0.mk A670
               clear A670
               have hfin_ := Option.some.inj H
               go_wp2_with (first | ((with_reducible refine gate_dst (N := 92) rfl ?_); (try (refine gate_guard (by rfl) ?_; dsimp only)); refine Kd.R_lit k51 _ 51 ?hg (N := 92) ?hd (xs := ([(⟨5, 1, 3⟩ : S51)] : List (S51))) (inner := [.int .i64 5, .int .i64 1, .int .i64 3]) (ok := fun _ => True) (okp := fun _ => True) ?hr ?hp (fun _ hk => hk) trivial (Below.refl _ _) (Nat.le_refl _) (by simp) ?_; (case hd => rfl); (case hg => rfl); (case hr => first | (go_simp; done) | (go_simp; rfl)); (case hp => exact (Reps.c3 (show Kd.M k51 _ _ _ (⟨5, 1, 3⟩ : S51) [.int .i64 5, .int .i64 1, .int .i64 3] from (k51_mkM _ _ _ (⟨5, 1, 3⟩ : S51) )) (Reps.none _ _))); intro v181 w68 ho69 hb hg_ hnew_; clear hg_ hnew_; (first | rw [← Ny180.out] at ho69 | (simp only [Int.reduceToNat] at ho69; rw [← Ny180.out] at ho69)); have n0_ := Aside0.mk (Kd.N_elder' (by (with_reducible repeat (first | apply Kd.N_alloc | apply Kd.N_drewN | apply Kd.N_drew)); exact HO_2.out) (Kd.R_base ho69) hb); have n1_ := Aside0.mk (Kd.R_elder' (rr_ HO_4) (Kd.R_base ho69) hb); have n2_ := Aside0.mk (Kd.R_below (rr_ HO_5) hb); have n3_ := Aside0.mk (Kd.R_elder' (rr_ HO_7) (Kd.R_base ho69) hb); have n4_ := Aside0.mk (Kd.R_below (rr_ HO_8) hb); have n5_ := Aside0.mk (Kd.R_elder' (rr_ HO_15) (Kd.R_base ho69) hb); have n6_ := Aside0.mk (Kd.R_below (rr_ HO_16) hb); have n7_ := Aside0.mk (Kd.R_below (rr_ HO_131000) hb); have n8_ := Aside0.mk (Kd.N_elder' (by (with_reducible repeat (first | apply Kd.N_alloc | apply Kd.N_drewN | apply Kd.N_drew)); exact HO_131001.out) (Kd.R_base ho69) hb); have n9_ := Aside0.mk (Kd.R_below (rr_ HO_156000) hb); have n10_ := Aside0.mk (Kd.N_elder' (by (with_reducible repeat (first | apply Kd.N_alloc | apply Kd.N_drewN | apply Kd.N_drew)); exact HO_156001.out) (Kd.R_base ho69) hb); have n11_ := Aside0.mk (Kd.R_below (rr_ HO_167000) hb); have n12_ := Aside0.mk (Kd.N_elder' (by (with_reducible repeat (first | apply Kd.N_alloc | apply Kd.N_drewN | apply Kd.N_drew)); exact HO_167001.out) (Kd.R_base ho69) hb); have n13_ := Aside0.mk (Kd.R_lower (Kd.R_new' (Kd.R_new' (Kd.R_new' ho69 (Kd.R_lt (rr_ HO_4))) (Kd.R_lt (rr_ HO_7))) (Kd.R_lt (rr_ HO_15))) (below_size (by repeat (first | (with_reducible first | exact HB.out | apply below_alloc | apply pw_below_drewN | apply below_drew1 | refine below_set ?_ GE130.out | refine below_set ?_ GE155.out | refine below_set ?_ GE166.out) | exact HB.out)))); have n14_ := Aside0.mk (blk_below (g := gb130) (o := .cells #[.slice Ao10 t121.length co10, .slice Ao12 t124.length co12] 25 (0, 0)) (kk_ BK130) hb); have n15_ := Aside0.mk (blk_below (g := gb155) (o := .cells #[.slice Ao25 t148.length co25, .slice Ao28 t151.length co28] 25 (0, 0)) (kk_ BK155) hb); have n16_ := Aside0.mk (blk_below (g := gb166) (o := .cells #[.slice Ao35 t159.length co35, .slice Ao39 t162.length co39] 25 (0, 0)) (kk_ BK166) hb); have n17_ := Aside0.mk (below_step (by repeat (first | (with_reducible first | exact HB.out | apply below_alloc | apply pw_below_drewN | apply below_drew1 | refine below_set ?_ GE130.out | refine below_set ?_ GE155.out | refine below_set ?_ GE166.out) | exact HB.out)) hb); clear HO_2; clear HO_4; clear HO_5; clear HO_7; clear HO_8; clear HO_15; clear HO_16; clear HO_131000; clear HO_131001; clear HO_156000; clear HO_156001; clear HO_167000; clear HO_167001; clear BK130; clear BK155; clear BK166; clear HB; have HO_2 := n0_; have HO_4 := n1_; have HO_5 := n2_; have HO_7 := n3_; have HO_8 := n4_; have HO_15 := n5_; have HO_16 := n6_; have HO_131000 := n7_; have HO_131001 := n8_; have HO_156000 := n9_; have HO_156001 := n10_; have HO_167000 := n11_; have HO_167001 := n12_; have HO182 := n13_; have BK130 := n14_; have BK155 := n15_; have BK166 := n16_; have HB := n17_; clear n0_ n1_ n2_ n3_ n4_ n5_ n6_ n7_ n8_ n9_ n10_ n11_ n12_ n13_ n14_ n15_ n16_ n17_; clear hb ho69; obtain ⟨Ao70, co70, eo70⟩ := Kd.R_slice HO182.out; subst eo70) | (go_at_call 17; (with_reducible refine (cohousingref26_SameMoves.calls kj6 _ _ t134 _ _ y180 true _ ?side1 ?side2 ?side3 ?side4 A53.out).mono ?_); (case side1 => exact cc_ ((Kd.R_reads' HO_4.out).2.2)); (case side2 => exact (Kd.R_reads' HO_4.out).2.1); (case side3 => exact cc_ ((Kd.R_reads' HO182.out).2.2)); (case side4 => exact (Kd.R_reads' HO182.out).2.1); rintro e w' ⟨rfl, ⟨nd, rfl⟩⟩) | ((with_reducible refine gate_dst (N := 97) rfl ?_); (try (refine gate_guard (by rfl) ?_; dsimp only)); refine Kd.R_lit (Kd.int .i64) _ 3 ?hg (N := 97) ?hd (xs := ([0] : List Int)) (inner := [.int .i64 0]) (ok := fun _ => True) (okp := fun _ => True) ?hr ?hp (fun _ hk => hk) trivial (Below.refl _ _) (Nat.le_refl _) (by simp) ?_; (case hd => rfl); (case hg => rfl); (case hr => first | (go_simp; done) | (go_simp; rfl)); (case hp => exact (Reps.one (show Kd.M (Kd.int .i64) _ _ _ 0 [.int .i64 0] from rfl) (Reps.none _ _))); intro v185 w71 ho72 hb hg_ hnew_; clear hg_ hnew_; (first | rw [← Ny184.out] at ho72 | (simp only [Int.reduceToNat] at ho72; rw [← Ny184.out] at ho72)); have n0_ := Aside0.mk (Kd.N_elder' (by (with_reducible repeat (first | apply Kd.N_alloc | apply Kd.N_drewN | apply Kd.N_drew)); exact HO_2.out) (Kd.R_base ho72) hb); have n1_ := Aside0.mk (Kd.R_below (rr_ HO_4) hb); have n2_ := Aside0.mk (Kd.R_elder' (rr_ HO_5) (Kd.R_base ho72) hb); have n3_ := Aside0.mk (Kd.R_below (rr_ HO_7) hb); have n4_ := Aside0.mk (Kd.R_elder' (rr_ HO_8) (Kd.R_base ho72) hb); have n5_ := Aside0.mk (Kd.R_below (rr_ HO_15) hb); have n6_ := Aside0.mk (Kd.R_elder' (rr_ HO_16) (Kd.R_base ho72) hb); have n7_ := Aside0.mk (Kd.R_below (rr_ HO_131000) hb); have n8_ := Aside0.mk (Kd.N_elder' (by (with_reducible repeat (first | apply Kd.N_alloc | apply Kd.N_drewN | apply Kd.N_drew)); exact HO_131001.out) (Kd.R_base ho72) hb); have n9_ := Aside0.mk (Kd.R_below (rr_ HO_156000) hb); have n10_ := Aside0.mk (Kd.N_elder' (by (with_reducible repeat (first | apply Kd.N_alloc | apply Kd.N_drewN | apply Kd.N_drew)); exact HO_156001.out) (Kd.R_base ho72) hb); have n11_ := Aside0.mk (Kd.R_below (rr_ HO_167000) hb); have n12_ := Aside0.mk (Kd.N_elder' (by (with_reducible repeat (first | apply Kd.N_alloc | apply Kd.N_drewN | apply Kd.N_drew)); exact HO_167001.out) (Kd.R_base ho72) hb); have n13_ := Aside0.mk (Kd.R_below (rr_ HO182) hb); have n14_ := Aside0.mk (Kd.R_lower (Kd.R_new' (Kd.R_new' (Kd.R_new' ho72 (Kd.R_lt (rr_ HO_5))) (Kd.R_lt (rr_ HO_8))) (Kd.R_lt (rr_ HO_16))) (below_size (by repeat (first | (with_reducible first | exact HB.out | apply below_alloc | apply pw_below_drewN | apply below_drew1 | refine below_set ?_ GE130.out | refine below_set ?_ GE155.out | refine below_set ?_ GE166.out) | exact HB.out)))); have n15_ := Aside0.mk (blk_below (g := gb130) (o := .cells #[.slice Ao10 t121.length co10, .slice Ao12 t124.length co12] 25 (0, 0)) (kk_ BK130) hb); have n16_ := Aside0.mk (blk_below (g := gb155) (o := .cells #[.slice Ao25 t148.length co25, .slice Ao28 t151.length co28] 25 (0, 0)) (kk_ BK155) hb); have n17_ := Aside0.mk (blk_below (g := gb166) (o := .cells #[.slice Ao35 t159.length co35, .slice Ao39 t162.length co39] 25 (0, 0)) (kk_ BK166) hb); have n18_ := Aside0.mk (below_step (by repeat (first | (with_reducible first | exact HB.out | apply below_alloc | apply pw_below_drewN | apply below_drew1 | refine below_set ?_ GE130.out | refine below_set ?_ GE155.out | refine below_set ?_ GE166.out) | exact HB.out)) hb); clear HO_2; clear HO_4; clear HO_5; clear HO_7; clear HO_8; clear HO_15; clear HO_16; clear HO_131000; clear HO_131001; clear HO_156000; clear HO_156001; clear HO_167000; clear HO_167001; clear HO182; clear BK130; clear BK155; clear BK166; clear HB; have HO_2 := n0_; have HO_4 := n1_; have HO_5 := n2_; have HO_7 := n3_; have HO_8 := n4_; have HO_15 := n5_; have HO_16 := n6_; have HO_131000 := n7_; have HO_131001 := n8_; have HO_156000 := n9_; have HO_156001 := n10_; have HO_167000 := n11_; have HO_167001 := n12_; have HO182 := n13_; have HO186 := n14_; have BK130 := n15_; have BK155 := n16_; have BK166 := n17_; have HB := n18_; clear n0_ n1_ n2_ n3_ n4_ n5_ n6_ n7_ n8_ n9_ n10_ n11_ n12_ n13_ n14_ n15_ n16_ n17_ n18_; clear hb ho72; obtain ⟨Ao73, co73, eo73⟩ := Kd.R_slice HO_5.out; subst eo73; obtain ⟨Ao74, co74, eo74⟩ := Kd.R_slice HO186.out; subst eo74) | (go_at_call 18; (with_reducible refine (cohousingref23_SameInts.calls kj6 _ _ t137 _ _ y184 true _ ?side1 ?side2 ?side3 ?side4 A55.out).mono ?_); (case side1 => exact cc_ ((Kd.R_reads' HO_5.out).2.2)); (case side2 => exact (Kd.R_reads' HO_5.out).2.1); (case side3 => exact cc_ ((Kd.R_reads' HO186.out).2.2)); (case side4 => exact (Kd.R_reads' HO186.out).2.1); rintro e w' ⟨rfl, ⟨nd, rfl⟩⟩; have p188 : 0 ≤ (0 : Int) := (by omega); have q188 : 0 < (t127.length : Int) := od_; obtain ⟨ad188, A188_1, c188_1, e188, hx188_0, hx188_1, hl188_1, hi188_1⟩ := at_T49 (Kd.N_reads' HO_2.out).2.2 0 p188 q188; cases e188; obtain ⟨ce188, hce188, hMe188, hcc188⟩ := Kd.N_get HO_2.out z49 0 p188 (by first | exact q188 | exact od_ | (have e_ := (Kd.N_reads' HO_2.out).1; omega)); obtain ⟨ua188_1, uc188_1, rfl, ul188_1, ge188_1⟩ := k49_openF hMe188; have hv188_1 := hcc188 1 _ rfl; rw [add_field _ _ 1 (by omega)] at hv188_1; replace hv188_1 := Option.some.inj (hv188_1.symm.trans hx188_1); injection hv188_1 with hva_ hvn_ hvc_; rw [hva_] at ge188_1; rw [hvc_] at ul188_1; have HL188_1 := Aside0.mk (show Kd.V k51 51 _ w.heap.size _ _ ((rd_T49 t127 0).f1) from Kd.V_mk ul188_1 ge188_1); clear hva_ hvn_ hvc_ ge188_1 ul188_1; clear hcc188 hce188; have qi188 : (0 < t127.length) = True := eq_true (by omega); (try rw [show ((0 : Int)).toNat = 0 from rfl] at hx188_0); (try rw [show 0 * 2 = 0 from rfl] at hx188_0); (try rw [Addr.add_zero'] at hx188_0); (try rw [show ((0 : Int)).toNat = 0 from rfl] at hx188_1); (try rw [show 0 * 2 = 0 from rfl] at hx188_1); (try rw [Addr.add_zero'] at hx188_1); have HR188_1 := Aside0.mk hi188_1; have HC188_1 := Aside0.mk hl188_1; clear hi188_1 hl188_1; replace p188 := eq_true p188; replace q188 := eq_true q188; obtain ⟨Ao75, co75, eo75⟩ := Kd.R_slice HO_7.out; subst eo75) | (go_at_call 17; (with_reducible refine (cohousingref26_SameMoves.calls kj6 _ _ t141 _ _ ((rd_T49 t127 0).f1) true _ ?side1 ?side2 ?side3 ?side4 A58.out).mono ?_); (case side1 => exact cc_ ((Kd.R_reads' HO_7.out).2.2)); (case side2 => exact (Kd.R_reads' HO_7.out).2.1); (case side3 => repeat (first | exact (by repeat (first | (with_reducible exact HR188_1.out) | (with_reducible refine Kd.C_alloc ?_ _) | (with_reducible refine Kd.C_drewN ?_ _) | (with_reducible refine Kd.C_drew ?_) | exact HR188_1.out)) | (with_reducible refine Kd.C_alloc ?_ _) | (with_reducible refine Kd.C_drewN ?_ _) | (with_reducible refine Kd.C_drew ?_))); (case side4 => exact HC188_1.out); rintro e w' ⟨rfl, ⟨nd, rfl⟩⟩; obtain ⟨Ao76, co76, eo76⟩ := Kd.R_slice HO_8.out; subst eo76; have hnb77 := NB155_130.out; have hnc77 := NB130_155.out; have hnb78 := NB155_166.out; have hnc78 := NB166_155.out; have hcz79_0 : w71.cell? ⟨gb155, 0, none⟩ = some (.slice Ao25 t148.length co25) := (blk_cell BK155.out 0).trans rfl; have hcz79_1 : w71.cell? ⟨gb155, 1, none⟩ = some (.slice Ao28 t151.length co28) := (blk_cell BK155.out 1).trans rfl; have hfz79_0 := blk_frozen BK155.out 0; have hfz79_1 := blk_frozen BK155.out 1; have p190 : 0 ≤ (0 : Int) := (by omega); have q190 : 0 < (t151.length : Int) := od_; obtain ⟨ad190, A190_2, c190_2, e190, hx190_0, hx190_1, hx190_2, hl190_2, hi190_2⟩ := at_T46 (Kd.N_reads' HO_156001.out).2.2 0 p190 q190; cases e190; obtain ⟨ce190, hce190, hMe190, hcc190⟩ := Kd.N_get HO_156001.out z46 0 p190 (by first | exact q190 | exact od_ | (have e_ := (Kd.N_reads' HO_156001.out).1; omega)); obtain ⟨ua190_2, uc190_2, rfl, ul190_2, ge190_2⟩ := k46_openF hMe190; have hv190_2 := hcc190 2 _ rfl; rw [add_field _ _ 2 (by omega)] at hv190_2; replace hv190_2 := Option.some.inj (hv190_2.symm.trans hx190_2); injection hv190_2 with hva_ hvn_ hvc_; rw [hva_] at ge190_2; rw [hvc_] at ul190_2; have HL190_2 := Aside0.mk (show Kd.V (Kd.int .i64) 3 _ w.heap.size _ _ ((rd_T46 t151 0).f2) from Kd.V_mk ul190_2 ge190_2); clear hva_ hvn_ hvc_ ge190_2 ul190_2; clear hcc190 hce190; have qi190 : (0 < t151.length) = True := eq_true (by omega); (try rw [show ((0 : Int)).toNat = 0 from rfl] at hx190_0); (try rw [show 0 * 3 = 0 from rfl] at hx190_0); (try rw [Addr.add_zero'] at hx190_0); (try rw [show ((0 : Int)).toNat = 0 from rfl] at hx190_1); (try rw [show 0 * 3 = 0 from rfl] at hx190_1); (try rw [Addr.add_zero'] at hx190_1); (try rw [show ((0 : Int)).toNat = 0 from rfl] at hx190_2); (try rw [show 0 * 3 = 0 from rfl] at hx190_2); (try rw [Addr.add_zero'] at hx190_2); have HR190_2 := Aside0.mk hi190_2; have HC190_2 := Aside0.mk hl190_2; clear hi190_2 hl190_2; replace p190 := eq_true p190; replace q190 := eq_true q190; have p191 : 0 ≤ (1 : Int) := (by omega); have q191 : 1 < (t151.length : Int) := od_; obtain ⟨ad191, A191_2, c191_2, e191, hx191_0, hx191_1, hx191_2, hl191_2, hi191_2⟩ := at_T46 (Kd.N_reads' HO_156001.out).2.2 1 p191 q191; obtain rfl : ad190 = ad191 := (by injection e191); obtain ⟨ce191, hce191, hMe191, hcc191⟩ := Kd.N_get HO_156001.out z46 1 p191 (by first | exact q191 | exact od_ | (have e_ := (Kd.N_reads' HO_156001.out).1; omega)); obtain ⟨ua191_2, uc191_2, rfl, ul191_2, ge191_2⟩ := k46_openF hMe191; have hv191_2 := hcc191 2 _ rfl; rw [add_field _ _ 2 (by omega)] at hv191_2; replace hv191_2 := Option.some.inj (hv191_2.symm.trans hx191_2); injection hv191_2 with hva_ hvn_ hvc_; rw [hva_] at ge191_2; rw [hvc_] at ul191_2; have HL191_2 := Aside0.mk (show Kd.V (Kd.int .i64) 3 _ w.heap.size _ _ ((rd_T46 t151 1).f2) from Kd.V_mk ul191_2 ge191_2); clear hva_ hvn_ hvc_ ge191_2 ul191_2; clear hcc191 hce191; (try simp only [show (1 : Int).toNat = 1 from rfl, Nat.reduceMul, Nat.reduceEqDiff, Go.Addr.add, ↓reduceIte] at hx191_0); (try simp only [show (1 : Int).toNat = 1 from rfl, Nat.reduceMul, Nat.reduceEqDiff, Go.Addr.add, ↓reduceIte] at hx191_1); (try simp only [show (1 : Int).toNat = 1 from rfl, Nat.reduceMul, Nat.reduceEqDiff, Go.Addr.add, ↓reduceIte] at hx191_2); have qi191 : (1 < t151.length) = True := eq_true (by omega); (try rw [show ((1 : Int)).toNat = 1 from rfl] at hx191_0); (try rw [show 1 * 3 = 3 from rfl] at hx191_0); (try rw [show ((1 : Int)).toNat = 1 from rfl] at hx191_1); (try rw [show 1 * 3 = 3 from rfl] at hx191_1); (try rw [show ((1 : Int)).toNat = 1 from rfl] at hx191_2); (try rw [show 1 * 3 = 3 from rfl] at hx191_2); have HR191_2 := Aside0.mk hi191_2; have HC191_2 := Aside0.mk hl191_2; clear hi191_2 hl191_2; replace p191 := eq_true p191; replace q191 := eq_true q191; obtain ⟨Ao80, co80, eo80⟩ := Kd.R_slice HO_15.out; subst eo80) | ((with_reducible refine gate_dst (N := 143) rfl ?_); (try (refine gate_guard (by rfl) ?_; dsimp only)); refine Kd.R_lit (Kd.int .i64) _ 3 ?hg (N := 143) ?hd (xs := ([0] : List Int)) (inner := [.int .i64 0]) (ok := fun _ => True) (okp := fun _ => True) ?hr ?hp (fun _ hk => hk) trivial (Below.refl _ _) (Nat.le_refl _) (by simp) ?_; (case hd => rfl); (case hg => rfl); (case hr => first | (go_simp; done) | (go_simp; rfl)); (case hp => exact (Reps.one (show Kd.M (Kd.int .i64) _ _ _ 0 [.int .i64 0] from rfl) (Reps.none _ _))); intro v193 w81 ho82 hb hg_ hnew_; clear hg_ hnew_; (first | rw [← Ny192.out] at ho82 | (simp only [Int.reduceToNat] at ho82; rw [← Ny192.out] at ho82)); have n6_ := Aside0.mk (Kd.R_elder' (rr_ HO_16) (Kd.R_base ho82) hb); have n18_ := Aside0.mk (Kd.R_lower (Kd.R_new' (Kd.R_new' (Kd.R_new' (Kd.R_new' ho82 (Kd.R_lt (rr_ HO_5))) (Kd.R_lt (rr_ HO_8))) (Kd.R_lt (rr_ HO_16))) (Kd.R_lt (rr_ HO186))) (below_size (by repeat (first | (with_reducible first | exact HB.out | apply below_alloc | apply pw_below_drewN | apply below_drew1 | refine below_set ?_ GE130.out | refine below_set ?_ GE155.out | refine below_set ?_ GE166.out) | exact HB.out)))); have n25_ := Aside0.mk (below_step (by repeat (first | (with_reducible first | exact HB.out | apply below_alloc | apply pw_below_drewN | apply below_drew1 | refine below_set ?_ GE130.out | refine below_set ?_ GE155.out | refine below_set ?_ GE166.out) | exact HB.out)) hb); clear HO_2; clear HO_4; clear HO_5; clear HO_7; clear HO_8; clear HO_15; clear HO_16; clear HO_131000; clear HO_131001; clear HO_156000; clear HO_156001; clear HO_167000; clear HO_167001; clear HO182; clear HO186; clear HL188_1; clear HL190_2; clear HL191_2; clear BK130; clear BK155; clear BK166; clear HR188_1; clear HR190_2; clear HR191_2; clear HB; have HO_16 := n6_; have HO194 := n18_; have HB := n25_; clear n6_ n18_ n25_; clear hb ho82; obtain ⟨Ao83, co83, eo83⟩ := Kd.R_slice HO_16.out; subst eo83; obtain ⟨Ao84, co84, eo84⟩ := Kd.R_slice HO194.out; subst eo84) | (go_at_call 18; (with_reducible refine (cohousingref23_SameInts.calls kj6 _ _ t176 _ _ y192 t195 _ ?side1 ?side2 ?side3 ?side4 A67.out).mono ?_); (case side1 => exact cc_ ((Kd.R_reads' HO_16.out).2.2)); (case side2 => exact (Kd.R_reads' HO_16.out).2.1); (case side3 => exact cc_ ((Kd.R_reads' HO194.out).2.2)); (case side4 => exact (Kd.R_reads' HO194.out).2.1); rintro e w' ⟨rfl, ⟨nd, rfl⟩⟩))
               go_ret
               exact ⟨ew_, by repeat (first | (with_reducible first | exact HB.out | apply below_alloc | apply pw_below_drewN | apply below_drew1 | refine below_set ?_ GE130.out | refine below_set ?_ GE155.out | refine below_set ?_ GE166.out) | exact HB.out)⟩
              ·rw [if_neg c66] at H
               have c66b0 : ((t173.length : Int) == 0) = false := beq_eq_false_iff_ne.mpr c66
               have c66b1 : ((t173.length : Int) != 0) = true := bne_iff_ne.mpr c66
               have c66b2 : ¬ (t173 = []) := fun h_ => c66 (by rw [h_]; rfl)
               exact absurd (Option.some.inj H) (by decide)
             ·rw [if_neg c65] at H
              have c65b0 : (((rd_T46 t151 1).f1) == 2) = false := beq_eq_false_iff_ne.mpr c65
              have c65b1 : (((rd_T46 t151 1).f1) != 2) = true := bne_iff_ne.mpr c65
              exact absurd (Option.some.inj H) (by decide)
            ·rw [if_neg c64] at H
             exact absurd H (by simp)
           ·rw [if_neg c63] at H
            have c63b0 : (((rd_T46 t151 0).f1) == 3) = false := beq_eq_false_iff_ne.mpr c63
            have c63b1 : (((rd_T46 t151 0).f1) != 3) = true := bne_iff_ne.mpr c63
            exact absurd (Option.some.inj H) (by decide)
          ·rw [if_neg c62] at H
           exact absurd H (by simp)
         ·rw [if_neg c61] at H
          have c61b0 : ((t151.length : Int) == 3) = false := beq_eq_false_iff_ne.mpr c61
          have c61b1 : ((t151.length : Int) != 3) = true := bne_iff_ne.mpr c61
          exact absurd (Option.some.inj H) (by decide)
        ·rw [if_neg c60] at H
         have c60b0 : ((t144.length : Int) == 0) = false := beq_eq_false_iff_ne.mpr c60
         have c60b1 : ((t144.length : Int) != 0) = true := bne_iff_ne.mpr c60
         have c60b2 : ¬ (t144 = []) := fun h_ => c60 (by rw [h_]; rfl)
         exact absurd (Option.some.inj H) (by decide)
       ·replace c59 := Bool.eq_false_iff.mpr c59
        subst c59
        have H1 : (some false) = some true := by rw [if_neg (show ¬ (false = true) by decide)] at H; exact H
        clear H
        have H := H1
        clear H1
        exact absurd (Option.some.inj H) (by decide)
      ·rw [if_neg c57] at H
       exact absurd H (by simp)
     ·replace c56 := Bool.eq_false_iff.mpr c56
      subst c56
      have H1 : (some false) = some true := by rw [if_neg (show ¬ (false = true) by decide)] at H; exact H
      clear H
      have H := H1
      clear H1
      exact absurd (Option.some.inj H) (by decide)
    ·replace c54 := Bool.eq_false_iff.mpr c54
     subst c54
     have H1 : (some false) = some true := by rw [if_neg (show ¬ (false = true) by decide)] at H; exact H
     clear H
     have H := H1
     clear H1
     exact absurd (Option.some.inj H) (by decide)
   ·replace c52 := Bool.eq_false_iff.mpr c52
    subst c52
    have H1 : (some false) = some true := by rw [if_neg (show ¬ (false = true) by decide)] at H; exact H
    clear H
    have H := H1
    clear H1
    exact absurd (Option.some.inj H) (by decide)
end
section
mutual
def cohousingref23_Few.j0 : Nat → Bool → List (S84) → List (S46) → Option (Bool)
 | 0, _, _, _ => none
 | k + 1, x13, x197000, x197001 => if x13 = true then (some false) else (cohousingref23_Few.l0 k 0 x197000 x197001)
def cohousingref23_Few.l0 : Nat → Int → List (S84) → List (S46) → Option (Bool)
 | 0, _, _, _ => none
 | k + 1, x3, x197000, x197001 => if x3 < (x197001.length : Int) then (if 0 ≤ x3 then (if (((rd_T46 x197001 x3).f2).length : Int) > 30 then (some false) else (cohousingref23_Few.l0 k (wrap64 (x3 + 1)) x197000 x197001)) else (none)) else (some true)
end
def cohousingref23_Few.f (k : Nat) (l0_0 : List (S84)) (l0_1 : List (S46)) : Option (Bool) := if (l0_0.length : Int) > 20 then (cohousingref23_Few.j0 k true l0_0 l0_1) else (cohousingref23_Few.j0 k (decide ((l0_1.length : Int) > 20)) l0_0 l0_1)
theorem cohousingref23_Few.calls (k : Nat) (A0_0 : Option Addr) (c0_0 : Nat) (l0_0 : List (S84)) (A0_1 : Option Addr) (c0_1 : Nat) (l0_1 : List (S46)) (r : Bool) (w : World) (hr0_0 : Kd.C k84 w A0_0 l0_0.length l0_0) (hc0_0 : l0_0.length ≤ c0_0) (hr0_1 : Kd.C k46 w A0_1 l0_1.length l0_1) (hc0_1 : l0_1.length ≤ c0_1) (h : cohousingref23_Few.f k l0_0 l0_1 = some r) :
  Calls Try.prog 11 #[.agg #[.slice A0_0 l0_0.length c0_0, .slice A0_1 l0_1.length c0_1]] w fun e w' => e = .returned (.bool r) ∧ Below w.heap.size w w' := by
 have hu25 := Try.underlying25
 have HR0_0 := Aside0.mk hr0_0
 have HC0_0 := Aside0.mk hc0_0
 clear hr0_0 hc0_0
 have HR0_1 := Aside0.mk hr0_1
 have HC0_1 := Aside0.mk hc0_1
 clear hr0_1 hc0_1
 have HB := Aside0.mk (Below.refl w.heap.size w)
 have H : (if (l0_0.length : Int) > 20 then (cohousingref23_Few.j0 k true l0_0 l0_1) else (cohousingref23_Few.j0 k (decide ((l0_1.length : Int) > 20)) l0_0 l0_1)) = some r := h
 clear h
 have HC2 := Aside0.mk H
 clear H
 go_enter Try.func11, Try.ntmps11
 go_upto_region 1 with (first | ((with_reducible refine gate_dst (N := 1) rfl ?_); (try (refine gate_guard (by rfl) ?_; dsimp only)); refine box_event ?hg (N := 1) ?hd (cs := #[.slice A0_0 l0_0.length c0_0, .slice A0_1 l0_1.length c0_1]) (t := 25) ?hr ?_; (case hd => rfl); (case hg => rfl); (case hr => first | (go_simp; done) | (go_simp; rfl)); intro gb196 hg w3 hbox hb; have n0_ := Aside0.mk (below_step (bb_ HB) hb); have n1_ := Aside0.mk (hbox); have n2_ := Aside0.mk ((by rw [hg]; exact (below_size (bb_ HB)) : w.heap.size ≤ gb196)); have n3_ := Aside0.mk ((by rw [hg]; exact (below_size (bb_ HB)) : w.heap.size ≤ gb196)); clear HB; have HB := n0_; have BK196 := n1_; have GW196 := n2_; have GE196 := n3_; clear n0_ n1_ n2_ n3_; clear hb hbox hg))
 (try simp only [Act.put, sI_, s0_, sS_])
 go_cut [13] (fun v13 wc => ∃ (kq : Nat) (x13_1 : Bool), v13 = .bool x13_1 ∧ Aside0 (cohousingref23_Few.j0 kq x13_1 l0_0 l0_1 = some r) ∧ Aside0 (kq ≤ k) ∧ Aside0 (wc.heap[gb196]? = some (.cells #[(.slice A0_0 l0_0.length c0_0), (.slice A0_1 l0_1.length c0_1)] 25 (0, 0))) ∧ Aside0 (Below w.heap.size w wc))
 case first =>
  have H := HC2.out
  clear HC2
  by_cases c4 : (l0_0.length : Int) > 20
  ·rw [if_pos c4] at H
   have c4b0 : decide (20 < (l0_0.length : Int)) = true := decide_eq_true c4
   have c4b1 : decide (20 < l0_0.length) = true := decide_eq_true (by omega)
   clear c4
   (first | rw [c4b0] | (simp only [i64_w, i32_w]; rw [c4b0]) | skip)
   have H' := Aside0.mk H
   clear H
   have hcz5_0 : w3.cell? ⟨gb196, 0, none⟩ = some (.slice A0_0 l0_0.length c0_0) := (blk_cell BK196.out 0).trans rfl
   have hcz5_1 : w3.cell? ⟨gb196, 1, none⟩ = some (.slice A0_1 l0_1.length c0_1) := (blk_cell BK196.out 1).trans rfl
   have hfz5_0 := blk_frozen BK196.out 0
   have hfz5_1 := blk_frozen BK196.out 1
   go_wp2
   go_meet
   case rel => exact ⟨_, (true), sd_, H', ⟨by first | omega | exact Nat.le_refl _⟩, ⟨by (with_reducible repeat (first | refine blk_drewN ?_ _ | refine blk_drew ?_ | refine blk_alloc ?_ _)); exact BK196.out⟩, ⟨by repeat (first | (with_reducible first | exact HB.out | apply below_alloc | apply pw_below_drewN | apply below_drew1 | refine below_set ?_ GE196.out) | exact HB.out)⟩⟩
  ·rw [if_neg c4] at H
   have c4b0 : decide (20 < (l0_0.length : Int)) = false := decide_eq_false c4
   have c4b1 : decide (20 < l0_0.length) = false := decide_eq_false (by omega)
   clear c4
   (first | rw [c4b0] | (simp only [i64_w, i32_w]; rw [c4b0]) | skip)
   have H' := Aside0.mk H
   clear H
   have hcz6_0 : w3.cell? ⟨gb196, 0, none⟩ = some (.slice A0_0 l0_0.length c0_0) := (blk_cell BK196.out 0).trans rfl
   have hcz6_1 : w3.cell? ⟨gb196, 1, none⟩ = some (.slice A0_1 l0_1.length c0_1) := (blk_cell BK196.out 1).trans rfl
   have hfz6_0 := blk_frozen BK196.out 0
   have hfz6_1 := blk_frozen BK196.out 1
   go_wp2
   go_meet
   case rel => exact ⟨_, (decide ((l0_1.length : Int) > 20)), sd_, H', ⟨by first | omega | exact Nat.le_refl _⟩, ⟨by (with_reducible repeat (first | refine blk_drewN ?_ _ | refine blk_drew ?_ | refine blk_alloc ?_ _)); exact BK196.out⟩, ⟨by repeat (first | (with_reducible first | exact HB.out | apply below_alloc | apply pw_below_drewN | apply below_drew1 | refine below_set ?_ GE196.out) | exact HB.out)⟩⟩
 case rest =>
  clear HC2
  try clear c1
  try clear p2
  try clear c4
  try clear c4b0
  try clear c4b1
  try clear hcz5_0
  try clear hcz5_1
  try clear hcz6_0
  try clear hcz6_1
  try clear hfz5_0
  try clear hfz5_1
  try clear hfz6_0
  try clear hfz6_1
  obtain ⟨kq, x13_1, rfl, HA, HJ1, BK196, HB⟩ := hcut
  cases kq with
  | zero => exact absurd HA.out (by simp [cohousingref23_Few.j0])
  | succ kj1 =>
   have H := HA.out
   clear HA
   simp only [cohousingref23_Few.j0] at H
   by_cases c7 : x13_1 = true
   ·subst c7
    have H1 : (some false) = some r := by rw [if_pos rfl] at H; exact H
    clear H
    have H := H1
    clear H1
    obtain rfl := Option.some.inj H
    go_wp2
    go_ret
    exact ⟨ew_, by repeat (first | (with_reducible first | exact HB.out | apply below_alloc | apply pw_below_drewN | apply below_drew1 | refine below_set ?_ GE196.out) | exact HB.out)⟩
   ·replace c7 := Bool.eq_false_iff.mpr c7
    subst c7
    have H1 : (cohousingref23_Few.l0 kj1 0 l0_0 l0_1) = some r := by rw [if_neg (show ¬ (false = true) by decide)] at H; exact H
    clear H
    have H := H1
    clear H1
    have H' := Aside0.mk H
    clear H
    go_wp2
    go_loopg [3] kj1 (fun kq v3 w' => ∃ (x3_2 : Int), v3 = .int .i64 x3_2 ∧ Aside0 (cohousingref23_Few.l0 kq x3_2 l0_0 l0_1 = some r) ∧ Aside0 (kq ≤ kj1) ∧ Aside0 (w'.heap[gb196]? = some (.cells #[(.slice A0_0 l0_0.length c0_0), (.slice A0_1 l0_1.length c0_1)] 25 (0, 0))) ∧ Aside0 (Below w.heap.size w w'))
    case atStart => exact ⟨(0), sd_, H', ⟨Nat.le_refl _⟩, ⟨by (with_reducible repeat (first | refine blk_drewN ?_ _ | refine blk_drew ?_ | refine blk_alloc ?_ _)); exact BK196.out⟩, ⟨by repeat (first | (with_reducible first | exact HB.out | apply below_alloc | apply pw_below_drewN | apply below_drew1 | refine below_set ?_ GE196.out) | exact HB.out)⟩⟩
    case round =>
     clear H'
     try clear c1
     try clear p2
     try clear c4
     try clear c4b0
     try clear c4b1
     try clear c7
     try clear hcz5_0
     try clear hcz5_1
     try clear hcz6_0
     try clear hcz6_1
     try clear hfz5_0
     try clear hfz5_1
     try clear hfz6_0
     try clear hfz6_1
     try clear p2
     obtain ⟨x3_2, rfl, HA, HK2, BK196, HB⟩ := hrel
     cases gk with
     | zero => exact absurd HA.out (by simp [cohousingref23_Few.l0])
     | succ k2 =>
      have H := HA.out
      clear HA
      simp only [cohousingref23_Few.l0] at H
      by_cases c8 : x3_2 < (l0_1.length : Int)
      ·rw [if_pos c8] at H
       have c8b0 : decide (x3_2 < (l0_1.length : Int)) = true := decide_eq_true c8
       clear c8
       by_cases c9 : 0 ≤ x3_2
       ·rw [if_pos c9] at H
        have c9b0 : decide (0 ≤ x3_2) = true := decide_eq_true c9
        clear c9
        by_cases c10 : (((rd_T46 l0_1 x3_2).f2).length : Int) > 30
        ·rw [if_pos c10] at H
         have c10b0 : decide (30 < (((rd_T46 l0_1 x3_2).f2).length : Int)) = true := decide_eq_true c10
         have c10b1 : decide (30 < ((rd_T46 l0_1 x3_2).f2).length) = true := decide_eq_true (by omega)
         clear c10
         obtain rfl := Option.some.inj H
         have hcz11_0 : wr.cell? ⟨gb196, 0, none⟩ = some (.slice A0_0 l0_0.length c0_0) := (blk_cell BK196.out 0).trans rfl
         have hcz11_1 : wr.cell? ⟨gb196, 1, none⟩ = some (.slice A0_1 l0_1.length c0_1) := (blk_cell BK196.out 1).trans rfl
         have hfz11_0 := blk_frozen BK196.out 0
         have hfz11_1 := blk_frozen BK196.out 1
         have p197 : 0 ≤ (x3_2 : Int) := od_
         have q197 : x3_2 < (l0_1.length : Int) := od_
         obtain ⟨ad197, A197_2, c197_2, e197, hx197_0, hx197_1, hx197_2, hl197_2, hi197_2⟩ := at_T46 HR0_1.out x3_2 p197 q197
         cases e197
         replace hx197_0 := (HB.out.cell (World.block_lt_of_cell? w _ hx197_0)).trans hx197_0
         replace hx197_1 := (HB.out.cell (World.block_lt_of_cell? w _ hx197_1)).trans hx197_1
         replace hx197_2 := (HB.out.cell (World.block_lt_of_cell? w _ hx197_2)).trans hx197_2
         have HR197_2 := Aside0.mk hi197_2
         have HC197_2 := Aside0.mk hl197_2
         clear hi197_2 hl197_2
         replace p197 := eq_true p197
         replace q197 := eq_true q197
         go_wp2
         go_ret
         exact ⟨ew_, by repeat (first | (with_reducible first | exact HB.out | apply below_alloc | apply pw_below_drewN | apply below_drew1 | refine below_set ?_ GE196.out) | exact HB.out)⟩
        ·rw [if_neg c10] at H
         have c10b0 : decide (30 < (((rd_T46 l0_1 x3_2).f2).length : Int)) = false := decide_eq_false c10
         have c10b1 : decide (30 < ((rd_T46 l0_1 x3_2).f2).length) = false := decide_eq_false (by omega)
         clear c10
         have H' := Aside0.mk H
         clear H
         have hcz12_0 : wr.cell? ⟨gb196, 0, none⟩ = some (.slice A0_0 l0_0.length c0_0) := (blk_cell BK196.out 0).trans rfl
         have hcz12_1 : wr.cell? ⟨gb196, 1, none⟩ = some (.slice A0_1 l0_1.length c0_1) := (blk_cell BK196.out 1).trans rfl
         have hfz12_0 := blk_frozen BK196.out 0
         have hfz12_1 := blk_frozen BK196.out 1
         have p197 : 0 ≤ (x3_2 : Int) := od_
         have q197 : x3_2 < (l0_1.length : Int) := od_
         obtain ⟨ad197, A197_2, c197_2, e197, hx197_0, hx197_1, hx197_2, hl197_2, hi197_2⟩ := at_T46 HR0_1.out x3_2 p197 q197
         cases e197
         replace hx197_0 := (HB.out.cell (World.block_lt_of_cell? w _ hx197_0)).trans hx197_0
         replace hx197_1 := (HB.out.cell (World.block_lt_of_cell? w _ hx197_1)).trans hx197_1
         replace hx197_2 := (HB.out.cell (World.block_lt_of_cell? w _ hx197_2)).trans hx197_2
         have HR197_2 := Aside0.mk hi197_2
         have HC197_2 := Aside0.mk hl197_2
         clear hi197_2 hl197_2
         replace p197 := eq_true p197
         replace q197 := eq_true q197
         go_wp2
         go_roundg k2
         case measure => have := HJ1.out; have := HK2.out; omega
         case rel => exact ⟨(wrap64 (x3_2 + 1)), sd_, H', ⟨by have := HJ1.out; have := HK2.out; omega⟩, ⟨by (with_reducible repeat (first | refine blk_drewN ?_ _ | refine blk_drew ?_ | refine blk_alloc ?_ _)); exact BK196.out⟩, ⟨by repeat (first | (with_reducible first | exact HB.out | apply below_alloc | apply pw_below_drewN | apply below_drew1 | refine below_set ?_ GE196.out) | exact HB.out)⟩⟩
       ·rw [if_neg c9] at H
        exact absurd H (by simp)
      ·rw [if_neg c8] at H
       have c8b0 : decide (x3_2 < (l0_1.length : Int)) = false := decide_eq_false c8
       clear c8
       obtain rfl := Option.some.inj H
       have hcz13_0 : wr.cell? ⟨gb196, 0, none⟩ = some (.slice A0_0 l0_0.length c0_0) := (blk_cell BK196.out 0).trans rfl
       have hcz13_1 : wr.cell? ⟨gb196, 1, none⟩ = some (.slice A0_1 l0_1.length c0_1) := (blk_cell BK196.out 1).trans rfl
       have hfz13_0 := blk_frozen BK196.out 0
       have hfz13_1 := blk_frozen BK196.out 1
       go_wp2
       go_ret
       exact ⟨ew_, by repeat (first | (with_reducible first | exact HB.out | apply below_alloc | apply pw_below_drewN | apply below_drew1 | refine below_set ?_ GE196.out) | exact HB.out)⟩
end
section
def cohousingref23_In.l0 : Nat → List Int → Int → Int → Option (Int)
 | 0, _, _, _ => none
 | k + 1, x0, x1, x5 => if x5 < (x0.length : Int) then (if 0 ≤ x5 then (if (rd x0 x5) = x1 then (some x5) else (cohousingref23_In.l0 k x0 x1 (wrap64 (x5 + 1)))) else (none)) else (some (-1))
def cohousingref23_In.f (k : Nat) (l0 : List Int) (a1 : Int) : Option (Int) := cohousingref23_In.l0 k l0 a1 0
theorem cohousingref23_In.calls (k : Nat) (A0 : Option Addr) (c0 : Nat) (l0 : List Int) (a1 : Int) (r : Int) (w : World) (hr0 : Kd.C (Kd.int .i64) w A0 l0.length l0) (hc0 : l0.length ≤ c0) (h : cohousingref23_In.f k l0 a1 = some r) :
  Calls Try.prog 24 #[.slice A0 l0.length c0, .int .i64 a1] w fun e w' => e = .returned (.int .i64 r) ∧ Drawn0 w w' := by
 have HR0 := Aside0.mk hr0
 have HC0 := Aside0.mk hc0
 clear hr0 hc0
 have H : (cohousingref23_In.l0 k l0 a1 0) = some r := h
 clear h
 have H' := Aside0.mk H
 clear H
 go_enter Try.func24, Try.ntmps24
 go_wp2
 go_loopg [5] k (fun kq v5 w' => ∃ (x5_1 : Int), v5 = .int .i64 x5_1 ∧ Aside0 (cohousingref23_In.l0 kq l0 a1 x5_1 = some r) ∧ Aside0 (kq ≤ k) ∧ Drawn0 w w')
 case atStart => exact ⟨(0), sd_, H', ⟨Nat.le_refl _⟩, by repeat (first | exact Drawn0.refl _ | apply Drawn0.step)⟩
 case round =>
  clear H'
  try clear c2
  try clear p2
  obtain ⟨x5_1, rfl, HA, HK1, ⟨m1, rfl⟩⟩ := hrel
  cases gk with
  | zero => exact absurd HA.out (by simp [cohousingref23_In.l0])
  | succ k1 =>
   have H := HA.out
   clear HA
   simp only [cohousingref23_In.l0] at H
   by_cases c3 : x5_1 < (l0.length : Int)
   ·rw [if_pos c3] at H
    have c3b0 : decide (x5_1 < (l0.length : Int)) = true := decide_eq_true c3
    clear c3
    by_cases c4 : 0 ≤ x5_1
    ·rw [if_pos c4] at H
     have c4b0 : decide (0 ≤ x5_1) = true := decide_eq_true c4
     clear c4
     by_cases c5 : (rd l0 x5_1) = a1
     ·rw [if_pos c5] at H
      have c5b0 : ((rd l0 x5_1) == a1) = true := beq_iff_eq.mpr c5
      have c5b1 : ((rd l0 x5_1) != a1) = false := bne_eq_false_iff_eq.mpr c5
      clear c5
      obtain rfl := Option.some.inj H
      have p203 : 0 ≤ (x5_1 : Int) := od_
      have q203 : x5_1 < (l0.length : Int) := od_
      obtain ⟨ad203, e203, hx203_0⟩ := Kd.at_int HR0.out x5_1 p203 q203
      cases e203
      replace p203 := eq_true p203
      replace q203 := eq_true q203
      go_wp2
      go_ret
      exact ⟨by first | rfl | (simp; done) | (simp [*]; done), by repeat (first | exact Drawn0.refl _ | apply Drawn0.step)⟩
     ·rw [if_neg c5] at H
      have c5b0 : ((rd l0 x5_1) == a1) = false := beq_eq_false_iff_ne.mpr c5
      have c5b1 : ((rd l0 x5_1) != a1) = true := bne_iff_ne.mpr c5
      have H' := Aside0.mk H
      clear H
      have p203 : 0 ≤ (x5_1 : Int) := od_
      have q203 : x5_1 < (l0.length : Int) := od_
      obtain ⟨ad203, e203, hx203_0⟩ := Kd.at_int HR0.out x5_1 p203 q203
      cases e203
      replace p203 := eq_true p203
      replace q203 := eq_true q203
      go_wp2
      go_roundg k1
      case measure => have := HK1.out; omega
      case rel => exact ⟨(wrap64 (x5_1 + 1)), sd_, H', ⟨by have := HK1.out; omega⟩, by repeat (first | exact Drawn0.refl _ | apply Drawn0.step)⟩
    ·rw [if_neg c4] at H
     exact absurd H (by simp)
   ·rw [if_neg c3] at H
    have c3b0 : decide (x5_1 < (l0.length : Int)) = false := decide_eq_false c3
    clear c3
    obtain rfl := Option.some.inj H
    go_wp2
    go_ret
    exact ⟨by first | rfl | (simp; done) | (simp [*]; done), by repeat (first | exact Drawn0.refl _ | apply Drawn0.step)⟩
end
section
def cohousingref23_Flats.l0 : Nat → List (S84) → Int → Option (Bool)
 | 0, _, _ => none
 | k + 1, x0, x3 => if x3 < (x0.length : Int) then (if 0 ≤ x3 then (if ((rd_T84 x0 x3).f0) < 1 then (some false) else (if ((rd_T84 x0 x3).f0) > 64 then (some false) else (if x3 > 0 then (if 0 ≤ (wrap64 (x3 - 1)) then (if (wrap64 (x3 - 1)) < (x0.length : Int) then (if ((rd_T84 x0 x3).f0) ≤ ((rd_T84 x0 (wrap64 (x3 - 1))).f0) then (some false) else (if ((rd_T84 x0 x3).f1) < 1 then (some false) else (if ((rd_T84 x0 x3).f1) > 10 then (some false) else (cohousingref23_Flats.l0 k x0 (wrap64 (x3 + 1)))))) else (none)) else (none)) else (if ((rd_T84 x0 x3).f1) < 1 then (some false) else (if ((rd_T84 x0 x3).f1) > 10 then (some false) else (cohousingref23_Flats.l0 k x0 (wrap64 (x3 + 1)))))))) else (none)) else (some true)
def cohousingref23_Flats.f (k : Nat) (l0 : List (S84)) : Option (Bool) := if (l0.length : Int) > 64 then (some false) else (cohousingref23_Flats.l0 k l0 0)
theorem cohousingref23_Flats.calls (k : Nat) (A0 : Option Addr) (c0 : Nat) (l0 : List (S84)) (r : Bool) (w : World) (hr0 : Kd.C k84 w A0 l0.length l0) (hc0 : l0.length ≤ c0) (h : cohousingref23_Flats.f k l0 = some r) :
  Calls Try.prog 44 #[.slice A0 l0.length c0] w fun e w' => e = .returned (.bool r) ∧ Drawn0 w w' := by
 have HR0 := Aside0.mk hr0
 have HC0 := Aside0.mk hc0
 clear hr0 hc0
 have H : (if (l0.length : Int) > 64 then (some false) else (cohousingref23_Flats.l0 k l0 0)) = some r := h
 clear h
 by_cases c2 : (l0.length : Int) > 64
 ·rw [if_pos c2] at H
  have c2b0 : decide (64 < (l0.length : Int)) = true := decide_eq_true c2
  have c2b1 : decide (64 < l0.length) = true := decide_eq_true (by omega)
  clear c2
  obtain rfl := Option.some.inj H
  go_enter Try.func44, Try.ntmps44
  go_wp2
  repeat (go_quiet (fail); try go_wp2)
  go_ret
  exact ⟨by first | rfl | (simp; done) | (simp [*]; done), by repeat (first | exact Drawn0.refl _ | apply Drawn0.step)⟩
 ·rw [if_neg c2] at H
  have c2b0 : decide (64 < (l0.length : Int)) = false := decide_eq_false c2
  have c2b1 : decide (64 < l0.length) = false := decide_eq_false (by omega)
  clear c2
  have H' := Aside0.mk H
  clear H
  go_enter Try.func44, Try.ntmps44
  go_wp2
  repeat (go_quiet (fail); try go_wp2)
  go_loopg [3] k (fun kq v3 w' => ∃ (x3_1 : Int), v3 = .int .i64 x3_1 ∧ Aside0 (cohousingref23_Flats.l0 kq l0 x3_1 = some r) ∧ Aside0 (kq ≤ k) ∧ Drawn0 w w')
  case atStart => exact ⟨(0), sd_, H', ⟨Nat.le_refl _⟩, by repeat (first | exact Drawn0.refl _ | apply Drawn0.step)⟩
  case round =>
   clear H'
   try clear c2
   try clear c2b0
   try clear c2b1
   try clear p2
   obtain ⟨x3_1, rfl, HA, HK1, ⟨m1, rfl⟩⟩ := hrel
   cases gk with
   | zero => exact absurd HA.out (by simp [cohousingref23_Flats.l0])
   | succ k1 =>
    have H := HA.out
    clear HA
    simp only [cohousingref23_Flats.l0] at H
    by_cases c3 : x3_1 < (l0.length : Int)
    ·rw [if_pos c3] at H
     have c3b0 : decide (x3_1 < (l0.length : Int)) = true := decide_eq_true c3
     clear c3
     by_cases c4 : 0 ≤ x3_1
     ·rw [if_pos c4] at H
      have c4b0 : decide (0 ≤ x3_1) = true := decide_eq_true c4
      clear c4
      by_cases c5 : ((rd_T84 l0 x3_1).f0) < 1
      ·rw [if_pos c5] at H
       have c5b0 : decide (((rd_T84 l0 x3_1).f0) < 1) = true := decide_eq_true c5
       clear c5
       obtain rfl := Option.some.inj H
       have p204 : 0 ≤ (x3_1 : Int) := od_
       have q204 : x3_1 < (l0.length : Int) := od_
       obtain ⟨ad204, e204, hx204_0, hx204_1⟩ := at_T84 HR0.out x3_1 p204 q204
       cases e204
       replace p204 := eq_true p204
       replace q204 := eq_true q204
       go_wp2
       repeat (go_quiet (fail); try go_wp2)
       go_ret
       exact ⟨by first | rfl | (simp; done) | (simp [*]; done), by repeat (first | exact Drawn0.refl _ | apply Drawn0.step)⟩
      ·rw [if_neg c5] at H
       have c5b0 : decide (((rd_T84 l0 x3_1).f0) < 1) = false := decide_eq_false c5
       clear c5
       by_cases c6 : ((rd_T84 l0 x3_1).f0) > 64
       ·rw [if_pos c6] at H
        have c6b0 : decide (64 < ((rd_T84 l0 x3_1).f0)) = true := decide_eq_true c6
        clear c6
        obtain rfl := Option.some.inj H
        have p204 : 0 ≤ (x3_1 : Int) := od_
        have q204 : x3_1 < (l0.length : Int) := od_
        obtain ⟨ad204, e204, hx204_0, hx204_1⟩ := at_T84 HR0.out x3_1 p204 q204
        cases e204
        replace p204 := eq_true p204
        replace q204 := eq_true q204
        have p205 : 0 ≤ (x3_1 : Int) := od_
        have q205 : x3_1 < (l0.length : Int) := od_
        obtain ⟨ad205, e205, hx205_0, hx205_1⟩ := at_T84 HR0.out x3_1 p205 q205
        obtain rfl : ad204 = ad205 := (by injection e205)
        replace p205 := eq_true p205
        replace q205 := eq_true q205
        go_wp2
        repeat (go_quiet (fail); try go_wp2)
        go_ret
        exact ⟨by first | rfl | (simp; done) | (simp [*]; done), by repeat (first | exact Drawn0.refl _ | apply Drawn0.step)⟩
       ·rw [if_neg c6] at H
        have c6b0 : decide (64 < ((rd_T84 l0 x3_1).f0)) = false := decide_eq_false c6
        clear c6
        by_cases c7 : x3_1 > 0
        ·rw [if_pos c7] at H
         have c7b0 : decide (0 < x3_1) = true := decide_eq_true c7
         clear c7
         obtain ⟨ji8, hji8⟩ : ∃ j_ : Int, (wrap64 (x3_1 - 1)) = j_ := ⟨_, rfl⟩
         replace H : (if 0 ≤ (ji8) then (if (ji8) < (l0.length : Int) then (if ((rd_T84 l0 x3_1).f0) ≤ ((rd_T84 l0 (ji8)).f0) then (some false) else (if ((rd_T84 l0 x3_1).f1) < 1 then (some false) else (if ((rd_T84 l0 x3_1).f1) > 10 then (some false) else (cohousingref23_Flats.l0 k1 l0 (wrap64 (x3_1 + 1)))))) else (none)) else (none)) = some r := by first | (rw [hji8] at H; exact H) | (simp only [hji8] at H ⊢; exact H)
         have hji8w : (IntKind.i64.wrap (x3_1 - 1)) = ji8 := (i64_w _).trans hji8
         by_cases c9 : 0 ≤ (ji8)
         ·rw [if_pos c9] at H
          have c9b0 : decide (0 ≤ (ji8)) = true := decide_eq_true c9
          clear c9
          by_cases c10 : (ji8) < (l0.length : Int)
          ·rw [if_pos c10] at H
           have c10b0 : decide ((ji8) < (l0.length : Int)) = true := decide_eq_true c10
           clear c10
           by_cases c11 : ((rd_T84 l0 x3_1).f0) ≤ ((rd_T84 l0 (ji8)).f0)
           ·rw [if_pos c11] at H
            have c11b0 : decide (((rd_T84 l0 x3_1).f0) ≤ ((rd_T84 l0 (ji8)).f0)) = true := decide_eq_true c11
            clear c11
            obtain rfl := Option.some.inj H
            have p204 : 0 ≤ (x3_1 : Int) := od_
            have q204 : x3_1 < (l0.length : Int) := od_
            obtain ⟨ad204, e204, hx204_0, hx204_1⟩ := at_T84 HR0.out x3_1 p204 q204
            cases e204
            replace p204 := eq_true p204
            replace q204 := eq_true q204
            have p205 : 0 ≤ (x3_1 : Int) := od_
            have q205 : x3_1 < (l0.length : Int) := od_
            obtain ⟨ad205, e205, hx205_0, hx205_1⟩ := at_T84 HR0.out x3_1 p205 q205
            obtain rfl : ad204 = ad205 := (by injection e205)
            replace p205 := eq_true p205
            replace q205 := eq_true q205
            have p206 : 0 ≤ (x3_1 : Int) := od_
            have q206 : x3_1 < (l0.length : Int) := od_
            obtain ⟨ad206, e206, hx206_0, hx206_1⟩ := at_T84 HR0.out x3_1 p206 q206
            obtain rfl : ad204 = ad206 := (by injection e206)
            replace p206 := eq_true p206
            replace q206 := eq_true q206
            have p207 : 0 ≤ ((ji8) : Int) := od_
            have q207 : (ji8) < (l0.length : Int) := od_
            obtain ⟨ad207, e207, hx207_0, hx207_1⟩ := at_T84 HR0.out (ji8) p207 q207
            obtain rfl : ad204 = ad207 := (by injection e207)
            replace p207 := eq_true p207
            replace q207 := eq_true q207
            go_wp2
            repeat (go_quiet (fail); try go_wp2)
            go_ret
            exact ⟨by first | rfl | (simp; done) | (simp only [← hji8] <;> (first | rfl | simp)) | (simp [*]; done), by repeat (first | exact Drawn0.refl _ | apply Drawn0.step)⟩
           ·rw [if_neg c11] at H
            have c11b0 : decide (((rd_T84 l0 x3_1).f0) ≤ ((rd_T84 l0 (ji8)).f0)) = false := decide_eq_false c11
            clear c11
            by_cases c12 : ((rd_T84 l0 x3_1).f1) < 1
            ·rw [if_pos c12] at H
             have c12b0 : decide (((rd_T84 l0 x3_1).f1) < 1) = true := decide_eq_true c12
             clear c12
             obtain rfl := Option.some.inj H
             have p204 : 0 ≤ (x3_1 : Int) := od_
             have q204 : x3_1 < (l0.length : Int) := od_
             obtain ⟨ad204, e204, hx204_0, hx204_1⟩ := at_T84 HR0.out x3_1 p204 q204
             cases e204
             replace p204 := eq_true p204
             replace q204 := eq_true q204
             have p205 : 0 ≤ (x3_1 : Int) := od_
             have q205 : x3_1 < (l0.length : Int) := od_
             obtain ⟨ad205, e205, hx205_0, hx205_1⟩ := at_T84 HR0.out x3_1 p205 q205
             obtain rfl : ad204 = ad205 := (by injection e205)
             replace p205 := eq_true p205
             replace q205 := eq_true q205
             have p206 : 0 ≤ (x3_1 : Int) := od_
             have q206 : x3_1 < (l0.length : Int) := od_
             obtain ⟨ad206, e206, hx206_0, hx206_1⟩ := at_T84 HR0.out x3_1 p206 q206
             obtain rfl : ad204 = ad206 := (by injection e206)
             replace p206 := eq_true p206
             replace q206 := eq_true q206
             have p207 : 0 ≤ ((ji8) : Int) := od_
             have q207 : (ji8) < (l0.length : Int) := od_
             obtain ⟨ad207, e207, hx207_0, hx207_1⟩ := at_T84 HR0.out (ji8) p207 q207
             obtain rfl : ad204 = ad207 := (by injection e207)
             replace p207 := eq_true p207
             replace q207 := eq_true q207
             have p208 : 0 ≤ (x3_1 : Int) := od_
             have q208 : x3_1 < (l0.length : Int) := od_
             obtain ⟨ad208, e208, hx208_0, hx208_1⟩ := at_T84 HR0.out x3_1 p208 q208
             obtain rfl : ad204 = ad208 := (by injection e208)
             replace p208 := eq_true p208
             replace q208 := eq_true q208
             go_wp2
             repeat (go_quiet (fail); try go_wp2)
             go_ret
             exact ⟨by first | rfl | (simp; done) | (simp only [← hji8] <;> (first | rfl | simp)) | (simp [*]; done), by repeat (first | exact Drawn0.refl _ | apply Drawn0.step)⟩
            ·rw [if_neg c12] at H
             have c12b0 : decide (((rd_T84 l0 x3_1).f1) < 1) = false := decide_eq_false c12
             clear c12
             by_cases c13 : ((rd_T84 l0 x3_1).f1) > 10
             ·rw [if_pos c13] at H
              have c13b0 : decide (10 < ((rd_T84 l0 x3_1).f1)) = true := decide_eq_true c13
              clear c13
              obtain rfl := Option.some.inj H
              have p204 : 0 ≤ (x3_1 : Int) := od_
              have q204 : x3_1 < (l0.length : Int) := od_
              obtain ⟨ad204, e204, hx204_0, hx204_1⟩ := at_T84 HR0.out x3_1 p204 q204
              cases e204
              replace p204 := eq_true p204
              replace q204 := eq_true q204
              have p205 : 0 ≤ (x3_1 : Int) := od_
              have q205 : x3_1 < (l0.length : Int) := od_
              obtain ⟨ad205, e205, hx205_0, hx205_1⟩ := at_T84 HR0.out x3_1 p205 q205
              obtain rfl : ad204 = ad205 := (by injection e205)
              replace p205 := eq_true p205
              replace q205 := eq_true q205
              have p206 : 0 ≤ (x3_1 : Int) := od_
              have q206 : x3_1 < (l0.length : Int) := od_
              obtain ⟨ad206, e206, hx206_0, hx206_1⟩ := at_T84 HR0.out x3_1 p206 q206
              obtain rfl : ad204 = ad206 := (by injection e206)
              replace p206 := eq_true p206
              replace q206 := eq_true q206
              have p207 : 0 ≤ ((ji8) : Int) := od_
              have q207 : (ji8) < (l0.length : Int) := od_
              obtain ⟨ad207, e207, hx207_0, hx207_1⟩ := at_T84 HR0.out (ji8) p207 q207
              obtain rfl : ad204 = ad207 := (by injection e207)
              replace p207 := eq_true p207
              replace q207 := eq_true q207
              have p208 : 0 ≤ (x3_1 : Int) := od_
              have q208 : x3_1 < (l0.length : Int) := od_
              obtain ⟨ad208, e208, hx208_0, hx208_1⟩ := at_T84 HR0.out x3_1 p208 q208
              obtain rfl : ad204 = ad208 := (by injection e208)
              replace p208 := eq_true p208
              replace q208 := eq_true q208
              have p209 : 0 ≤ (x3_1 : Int) := od_
              have q209 : x3_1 < (l0.length : Int) := od_
              obtain ⟨ad209, e209, hx209_0, hx209_1⟩ := at_T84 HR0.out x3_1 p209 q209
              obtain rfl : ad204 = ad209 := (by injection e209)
              replace p209 := eq_true p209
              replace q209 := eq_true q209
              go_wp2
              repeat (go_quiet (fail); try go_wp2)
              go_ret
              exact ⟨by first | rfl | (simp; done) | (simp only [← hji8] <;> (first | rfl | simp)) | (simp [*]; done), by repeat (first | exact Drawn0.refl _ | apply Drawn0.step)⟩
             ·rw [if_neg c13] at H
              have c13b0 : decide (10 < ((rd_T84 l0 x3_1).f1)) = false := decide_eq_false c13
              clear c13
              have H' := Aside0.mk H
              clear H
              have p204 : 0 ≤ (x3_1 : Int) := od_
              have q204 : x3_1 < (l0.length : Int) := od_
              obtain ⟨ad204, e204, hx204_0, hx204_1⟩ := at_T84 HR0.out x3_1 p204 q204
              cases e204
              replace p204 := eq_true p204
              replace q204 := eq_true q204
              have p205 : 0 ≤ (x3_1 : Int) := od_
              have q205 : x3_1 < (l0.length : Int) := od_
              obtain ⟨ad205, e205, hx205_0, hx205_1⟩ := at_T84 HR0.out x3_1 p205 q205
              obtain rfl : ad204 = ad205 := (by injection e205)
              replace p205 := eq_true p205
              replace q205 := eq_true q205
              have p206 : 0 ≤ (x3_1 : Int) := od_
              have q206 : x3_1 < (l0.length : Int) := od_
              obtain ⟨ad206, e206, hx206_0, hx206_1⟩ := at_T84 HR0.out x3_1 p206 q206
              obtain rfl : ad204 = ad206 := (by injection e206)
              replace p206 := eq_true p206
              replace q206 := eq_true q206
              have p207 : 0 ≤ ((ji8) : Int) := od_
              have q207 : (ji8) < (l0.length : Int) := od_
              obtain ⟨ad207, e207, hx207_0, hx207_1⟩ := at_T84 HR0.out (ji8) p207 q207
              obtain rfl : ad204 = ad207 := (by injection e207)
              replace p207 := eq_true p207
              replace q207 := eq_true q207
              have p208 : 0 ≤ (x3_1 : Int) := od_
              have q208 : x3_1 < (l0.length : Int) := od_
              obtain ⟨ad208, e208, hx208_0, hx208_1⟩ := at_T84 HR0.out x3_1 p208 q208
              obtain rfl : ad204 = ad208 := (by injection e208)
              replace p208 := eq_true p208
              replace q208 := eq_true q208
              have p209 : 0 ≤ (x3_1 : Int) := od_
              have q209 : x3_1 < (l0.length : Int) := od_
              obtain ⟨ad209, e209, hx209_0, hx209_1⟩ := at_T84 HR0.out x3_1 p209 q209
              obtain rfl : ad204 = ad209 := (by injection e209)
              replace p209 := eq_true p209
              replace q209 := eq_true q209
              go_wp2
              repeat (go_quiet (fail); try go_wp2)
              go_roundg k1
              case measure => have := HK1.out; omega
              case rel => exact ⟨(wrap64 (x3_1 + 1)), sd_, H', ⟨by have := HK1.out; omega⟩, by repeat (first | exact Drawn0.refl _ | apply Drawn0.step)⟩
          ·rw [if_neg c10] at H
           exact absurd H (by simp)
         ·rw [if_neg c9] at H
          exact absurd H (by simp)
        ·rw [if_neg c7] at H
         have c7b0 : decide (0 < x3_1) = false := decide_eq_false c7
         clear c7
         by_cases c14 : ((rd_T84 l0 x3_1).f1) < 1
         ·rw [if_pos c14] at H
          have c14b0 : decide (((rd_T84 l0 x3_1).f1) < 1) = true := decide_eq_true c14
          clear c14
          obtain rfl := Option.some.inj H
          have p204 : 0 ≤ (x3_1 : Int) := od_
          have q204 : x3_1 < (l0.length : Int) := od_
          obtain ⟨ad204, e204, hx204_0, hx204_1⟩ := at_T84 HR0.out x3_1 p204 q204
          cases e204
          replace p204 := eq_true p204
          replace q204 := eq_true q204
          have p205 : 0 ≤ (x3_1 : Int) := od_
          have q205 : x3_1 < (l0.length : Int) := od_
          obtain ⟨ad205, e205, hx205_0, hx205_1⟩ := at_T84 HR0.out x3_1 p205 q205
          obtain rfl : ad204 = ad205 := (by injection e205)
          replace p205 := eq_true p205
          replace q205 := eq_true q205
          have p210 : 0 ≤ (x3_1 : Int) := od_
          have q210 : x3_1 < (l0.length : Int) := od_
          obtain ⟨ad210, e210, hx210_0, hx210_1⟩ := at_T84 HR0.out x3_1 p210 q210
          obtain rfl : ad204 = ad210 := (by injection e210)
          replace p210 := eq_true p210
          replace q210 := eq_true q210
          go_wp2
          repeat (go_quiet (fail); try go_wp2)
          go_ret
          exact ⟨by first | rfl | (simp; done) | (simp [*]; done), by repeat (first | exact Drawn0.refl _ | apply Drawn0.step)⟩
         ·rw [if_neg c14] at H
          have c14b0 : decide (((rd_T84 l0 x3_1).f1) < 1) = false := decide_eq_false c14
          clear c14
          by_cases c15 : ((rd_T84 l0 x3_1).f1) > 10
          ·rw [if_pos c15] at H
           have c15b0 : decide (10 < ((rd_T84 l0 x3_1).f1)) = true := decide_eq_true c15
           clear c15
           obtain rfl := Option.some.inj H
           have p204 : 0 ≤ (x3_1 : Int) := od_
           have q204 : x3_1 < (l0.length : Int) := od_
           obtain ⟨ad204, e204, hx204_0, hx204_1⟩ := at_T84 HR0.out x3_1 p204 q204
           cases e204
           replace p204 := eq_true p204
           replace q204 := eq_true q204
           have p205 : 0 ≤ (x3_1 : Int) := od_
           have q205 : x3_1 < (l0.length : Int) := od_
           obtain ⟨ad205, e205, hx205_0, hx205_1⟩ := at_T84 HR0.out x3_1 p205 q205
           obtain rfl : ad204 = ad205 := (by injection e205)
           replace p205 := eq_true p205
           replace q205 := eq_true q205
           have p210 : 0 ≤ (x3_1 : Int) := od_
           have q210 : x3_1 < (l0.length : Int) := od_
           obtain ⟨ad210, e210, hx210_0, hx210_1⟩ := at_T84 HR0.out x3_1 p210 q210
           obtain rfl : ad204 = ad210 := (by injection e210)
           replace p210 := eq_true p210
           replace q210 := eq_true q210
           have p211 : 0 ≤ (x3_1 : Int) := od_
           have q211 : x3_1 < (l0.length : Int) := od_
           obtain ⟨ad211, e211, hx211_0, hx211_1⟩ := at_T84 HR0.out x3_1 p211 q211
           obtain rfl : ad204 = ad211 := (by injection e211)
           replace p211 := eq_true p211
           replace q211 := eq_true q211
           go_wp2
           repeat (go_quiet (fail); try go_wp2)
           go_ret
           exact ⟨by first | rfl | (simp; done) | (simp [*]; done), by repeat (first | exact Drawn0.refl _ | apply Drawn0.step)⟩
          ·rw [if_neg c15] at H
           have c15b0 : decide (10 < ((rd_T84 l0 x3_1).f1)) = false := decide_eq_false c15
           clear c15
           have H' := Aside0.mk H
           clear H
           have p204 : 0 ≤ (x3_1 : Int) := od_
           have q204 : x3_1 < (l0.length : Int) := od_
           obtain ⟨ad204, e204, hx204_0, hx204_1⟩ := at_T84 HR0.out x3_1 p204 q204
           cases e204
           replace p204 := eq_true p204
           replace q204 := eq_true q204
           have p205 : 0 ≤ (x3_1 : Int) := od_
           have q205 : x3_1 < (l0.length : Int) := od_
           obtain ⟨ad205, e205, hx205_0, hx205_1⟩ := at_T84 HR0.out x3_1 p205 q205
           obtain rfl : ad204 = ad205 := (by injection e205)
           replace p205 := eq_true p205
           replace q205 := eq_true q205
           have p210 : 0 ≤ (x3_1 : Int) := od_
           have q210 : x3_1 < (l0.length : Int) := od_
           obtain ⟨ad210, e210, hx210_0, hx210_1⟩ := at_T84 HR0.out x3_1 p210 q210
           obtain rfl : ad204 = ad210 := (by injection e210)
           replace p210 := eq_true p210
           replace q210 := eq_true q210
           have p211 : 0 ≤ (x3_1 : Int) := od_
           have q211 : x3_1 < (l0.length : Int) := od_
           obtain ⟨ad211, e211, hx211_0, hx211_1⟩ := at_T84 HR0.out x3_1 p211 q211
           obtain rfl : ad204 = ad211 := (by injection e211)
           replace p211 := eq_true p211
           replace q211 := eq_true q211
           go_wp2
           repeat (go_quiet (fail); try go_wp2)
           go_roundg k1
           case measure => have := HK1.out; omega
           case rel => exact ⟨(wrap64 (x3_1 + 1)), sd_, H', ⟨by have := HK1.out; omega⟩, by repeat (first | exact Drawn0.refl _ | apply Drawn0.step)⟩
     ·rw [if_neg c4] at H
      exact absurd H (by simp)
    ·rw [if_neg c3] at H
     have c3b0 : decide (x3_1 < (l0.length : Int)) = false := decide_eq_false c3
     clear c3
     obtain rfl := Option.some.inj H
     go_wp2
     repeat (go_quiet (fail); try go_wp2)
     go_ret
     exact ⟨by first | rfl | (simp; done) | (simp [*]; done), by repeat (first | exact Drawn0.refl _ | apply Drawn0.step)⟩
end
section
def cohousingref23_Has.l0 : Nat → List (S84) → Int → Int → Option (Bool)
 | 0, _, _, _ => none
 | k + 1, x0, x1, x5 => if x5 < (x0.length : Int) then (if 0 ≤ x5 then (if ((rd_T84 x0 x5).f0) = x1 then (some true) else (cohousingref23_Has.l0 k x0 x1 (wrap64 (x5 + 1)))) else (none)) else (some false)
def cohousingref23_Has.f (k : Nat) (l0 : List (S84)) (a1 : Int) : Option (Bool) := cohousingref23_Has.l0 k l0 a1 0
theorem cohousingref23_Has.calls (k : Nat) (A0 : Option Addr) (c0 : Nat) (l0 : List (S84)) (a1 : Int) (r : Bool) (w : World) (hr0 : Kd.C k84 w A0 l0.length l0) (hc0 : l0.length ≤ c0) (h : cohousingref23_Has.f k l0 a1 = some r) :
  Calls Try.prog 45 #[.slice A0 l0.length c0, .int .i64 a1] w fun e w' => e = .returned (.bool r) ∧ Drawn0 w w' := by
 have HR0 := Aside0.mk hr0
 have HC0 := Aside0.mk hc0
 clear hr0 hc0
 have H : (cohousingref23_Has.l0 k l0 a1 0) = some r := h
 clear h
 have H' := Aside0.mk H
 clear H
 go_enter Try.func45, Try.ntmps45
 go_wp2
 go_loopg [5] k (fun kq v5 w' => ∃ (x5_1 : Int), v5 = .int .i64 x5_1 ∧ Aside0 (cohousingref23_Has.l0 kq l0 a1 x5_1 = some r) ∧ Aside0 (kq ≤ k) ∧ Drawn0 w w')
 case atStart => exact ⟨(0), sd_, H', ⟨Nat.le_refl _⟩, by repeat (first | exact Drawn0.refl _ | apply Drawn0.step)⟩
 case round =>
  clear H'
  try clear p2
  obtain ⟨x5_1, rfl, HA, HK1, ⟨m1, rfl⟩⟩ := hrel
  cases gk with
  | zero => exact absurd HA.out (by simp [cohousingref23_Has.l0])
  | succ k1 =>
   have H := HA.out
   clear HA
   simp only [cohousingref23_Has.l0] at H
   by_cases c3 : x5_1 < (l0.length : Int)
   ·rw [if_pos c3] at H
    have c3b0 : decide (x5_1 < (l0.length : Int)) = true := decide_eq_true c3
    clear c3
    by_cases c4 : 0 ≤ x5_1
    ·rw [if_pos c4] at H
     have c4b0 : decide (0 ≤ x5_1) = true := decide_eq_true c4
     clear c4
     by_cases c5 : ((rd_T84 l0 x5_1).f0) = a1
     ·rw [if_pos c5] at H
      have c5b0 : (((rd_T84 l0 x5_1).f0) == a1) = true := beq_iff_eq.mpr c5
      have c5b1 : (((rd_T84 l0 x5_1).f0) != a1) = false := bne_eq_false_iff_eq.mpr c5
      clear c5
      obtain rfl := Option.some.inj H
      have p212 : 0 ≤ (x5_1 : Int) := od_
      have q212 : x5_1 < (l0.length : Int) := od_
      obtain ⟨ad212, e212, hx212_0, hx212_1⟩ := at_T84 HR0.out x5_1 p212 q212
      cases e212
      replace p212 := eq_true p212
      replace q212 := eq_true q212
      go_wp2
      go_ret
      exact ⟨by first | rfl | (simp; done) | (simp [*]; done), by repeat (first | exact Drawn0.refl _ | apply Drawn0.step)⟩
     ·rw [if_neg c5] at H
      have c5b0 : (((rd_T84 l0 x5_1).f0) == a1) = false := beq_eq_false_iff_ne.mpr c5
      have c5b1 : (((rd_T84 l0 x5_1).f0) != a1) = true := bne_iff_ne.mpr c5
      have H' := Aside0.mk H
      clear H
      have p212 : 0 ≤ (x5_1 : Int) := od_
      have q212 : x5_1 < (l0.length : Int) := od_
      obtain ⟨ad212, e212, hx212_0, hx212_1⟩ := at_T84 HR0.out x5_1 p212 q212
      cases e212
      replace p212 := eq_true p212
      replace q212 := eq_true q212
      go_wp2
      go_roundg k1
      case measure => have := HK1.out; omega
      case rel => exact ⟨(wrap64 (x5_1 + 1)), sd_, H', ⟨by have := HK1.out; omega⟩, by repeat (first | exact Drawn0.refl _ | apply Drawn0.step)⟩
    ·rw [if_neg c4] at H
     exact absurd H (by simp)
   ·rw [if_neg c3] at H
    have c3b0 : decide (x5_1 < (l0.length : Int)) = false := decide_eq_false c3
    clear c3
    obtain rfl := Option.some.inj H
    go_wp2
    go_ret
    exact ⟨by first | rfl | (simp; done) | (simp [*]; done), by repeat (first | exact Drawn0.refl _ | apply Drawn0.step)⟩
end
end Go.Proofs.Ytocbiggglnpeoaa.P
end
